/- Plain lemmas: what the functions of the program and of the reference compute. -/
import Derived.Test.YtpagkickoiafkaaGreatP96
set_option linter.all false
set_option maxRecDepth 100000
open Bool renaming true->X,false->T
open List renaming mem_cons->v?,any_eq_true->w_,any_eq_false->w!,mem_append->w?,mem_map->x_,getElem?_modify->x!,getElem?_eq_getElem->x?,length_set->y_,getD_eq_getElem?_getD->y!,zip_map'->y?,eq_nil_of_length_eq_zero->z_,mem_range->z!,mem_append_left->z?,mem_append_right->A_,pairwise_cons->A',getElem?_eq_none->A!,map_congr_left->A?
open Bool renaming not_eq_true'->B_,not_eq_true->B'
open Int renaming eq_ofNat_of_zero_le->B!
namespace Go.Sf.Sc
open Go Go.Sf
variable{k c:Int}
theorem aS{t:AC}(f:D6 t k):∀(n m:Nat)(a b:Int),a<k->a<n->b<m->b∈F3 t n a->c∈F3 t m b->c∈F3 t n a
 |0,_,_,_,_,_,_,d,_=>by simp[F3]at d|n+1,m,a,b,p,hn,q,d,j=>by
  rw [F3]at d|-;split at d
  .cases d
  .rename_i o;rw[aE o];have u:=f a U p;rcases v?.1 d with rfl|d
   .have e:=nJ f m (n+1) b p q hn;rw[e,F3,aE o]at j;exact j
   .exact List.mem_cons_of_mem _ (aS f n m (par t a) b U U q d j)
variable{a b:Int}
theorem Zl{t:AC}(h:D7 t)(o:a<t.bq.length)(d:x9 t a b=X)(f:x9 t b c=X):x9 t a c=X:=by
 unfold x9 at d f|-;rw[w_]at d f|-;obtain⟨x,p,e⟩:=d;obtain⟨y,q,j⟩:=f;rw[ml]at e j;subst e;subst j;exact⟨c,aS h.par _ _ a b o U U p q,V⟩
theorem oD{t:AC}(h:D7 t){e f g j o:Int}(hf:0<=j/\j<t.bq.length)(p:0<=o/\o<t.bq.length)(q:x9 t j f=X)(u:x9 t o g=X)(d:Fw t e f g=X):Fw t e j o=X:=by
 unfold Fw at d|-;simp only[gN,Lx]at d|-;exact⟨⟨⟨d.1.1.1,hf,p⟩,d.1.2⟩,Zl h hf.2 q d.2.1,Zl h p.2 u d.2.2⟩
end Go.Sf.Sc
namespace Go.Sf.Sc
open Go Go.Sf
theorem dX{t:AC}{r:ec}(h:Ds t r=0):(∀x∈DT r,(AA t.bq (AA r.d5.ci.bq x)).o3=T)/\∀x∈F7 r,De t r.d5.ci x=X:=by
 have d:QB t r.d5.ci (DT r) (F7 r)=X:=by grind[Ds]
 unfold QB at d;rw[gN,B_,B_,w!,w!]at d;exact⟨λx e=>by simpa using d.1 x e,λx e=>by simpa using d.2 x e⟩
abbrev gS(t:AC)(r:ec)(h:AH)(m:AN):AH:=CL t r (Bw h (dS r h m)) (cS r h m)
variable{m:AN}
theorem HH.d7{t:AC}{r:ec}{h:AH}(s:HH t r h m):∀e∈(gS t r h m).ci.ca,((0<=e.fd/\e.fd<(gS t r h m).ci.bq.length)/\0<=e.To/\e.To<(gS t r h m).ci.bq.length)/\Fw t e.fa (AA (gS t r h m).ci.bq e.fd) (AA (gS t r h m).ci.bq e.To)=X:=by
 intro e he;have el:(gS t r h m).ci.bq=(dS r h m).bq.map (AA h.ci.bq)++(DT r).map (AA r.d5.ci.bq):=rfl;have he:e∈(dS r h m).ca.map (λx=>RF (EE h (dS r h m)).bq (AA h.ci.ca x))++(F7 r).map (λk=>RF (cS r h m).bq (AA r.d5.ci.ca k)):=he;rcases w?.1 he with he|he
 .obtain⟨x,z,rfl⟩:=x_.1 he;have u:=VA (cx s.part).2;have f:=u.d7.1 x z;have d:=u.ends x z;have hf:=(s.hh.g.fit _ (AG f.1 f.2)).2;have F:=(TS s.he).2 x f.1 f.2;have fit:De t h.ci x=X:=by
   unfold Hj at F
   grind
  have at_:∀y,y∈(dS r h m).bq->0<=y->y<h.ci.bq.length->(0<=AA (EE h (dS r h m)).bq y/\AA (EE h (dS r h m)).bq y<(gS t r h m).ci.bq.length)/\AA (gS t r h m).ci.bq (AA (EE h (dS r h m)).bq y)=AA h.ci.bq y:=λy C D E=>by
   have hi:=BH C;rw[show AA (EE h (dS r h m)).bq y=Ao (dS r h m).bq y from KE D E,el,a5,az];refine⟨⟨hi.1,by have:=hi.2.1;push_cast;omega⟩,?_⟩;rw[DV hi.1 (by rw[az];exact hi.2.1),Nd hi.1 hi.2.1,hi.2.2.1]
  obtain ⟨a1,a2⟩:=at_ _ d.1 hf.1.1 hf.1.2;obtain⟨p,q⟩:=at_ _ d.2 hf.2.1 hf.2.2;refine⟨⟨a1,p⟩,?_⟩;simp only[RF];rw[a2,q];exact fit
 .obtain⟨k,A,rfl⟩:=x_.1 he;have j:0<=k/\k<r.d5.ci.ca.length:=Db A;have hf:=(s.ro.right.fit _ (AG j.1 j.2)).2;obtain⟨a1,G,a2⟩:=s.Abm hf.1.1 hf.1.2;obtain⟨p,H,q⟩:=s.Abm hf.2.1 hf.2.2;have o:=s.put.kind;refine⟨⟨a1,p⟩,?_⟩;exact oD (CY s.hv) ⟨(o _ (AG a1.1 a1.2)).1,G⟩ ⟨(o _ (AG p.1 p.2)).1,H⟩ a2 q ((dX s.re).2 k A)
end Go.Sf.Sc
namespace Go.Sf.Sc
open Go Go.Sf
def iV(t:AC)(k:Int)(v:Fp):Prop:=v.length=(A4 t k).length/\∀j:Int,0<=j->j<v.length->(AA (A4 t k) j).Low<=AA v j/\AA v j<=(AA (A4 t k) j).vB
def W5(t:AC)(g:ci)(κ:List Fp):Prop:=κ.length=g.bq.length/\∀i:Int,0<=i->i<g.bq.length->iV t (AA g.bq i) (AA κ i)
variable{x:AH}
theorem kw{t:AC}{κ:List Fp}(h:W5 t x.ci κ){p:(Int×Int)×Int}(z:MI t x p=T):W5 t x.ci (CJ κ p):=by
 unfold CJ;split
 .rename_i u;refine⟨by rw[List.length_modify];exact h.1,λi A C=>?_⟩;have hi:=h.2 i A C;by_cases e:i=p.1.1
  .have d:AA (κ.modify p.1.1.toNat λr=>r.set p.1.2.toNat p.2) i=(AA κ i).set p.1.2.toNat p.2:=by
    have:=h.1;subst e;simp[AA,x!,x? (show p.1.1.toNat<κ.length by omega)]
   rw [d];refine⟨by rw[y_];exact hi.1,λj o q=>?_⟩;rw[y_]at q;by_cases f:j=p.1.2
   .rw[show AA ((AA κ i).set p.1.2.toNat p.2) j=p.2 by rw[f];exact ri p.2 u.2 U,f,e];simp[MI]at z;omega
   .rw[show AA ((AA κ i).set p.1.2.toNat p.2) j=AA (AA κ i) j from rj p.2 u.2 o f];exact hi.2 j o q
  .have d:AA (κ.modify p.1.1.toNat λr=>r.set p.1.2.toNat p.2) i=AA κ i:=by
    simp [AA,y!,x!,show¬p.1.1.toNat=i.toNat by omega]
   rw [d];exact hi
 .exact h
theorem Zf{t:AC}:∀(L:BZ){κ:List Fp},W5 t x.ci κ->L.any (MI t x)=T->W5 t x.ci (L.foldl CJ κ)
 |[],_,h,_=>h|p::L,κ,h,d=>by
  rw [List.any_cons,Bool.or_eq_false_iff]at d;exact Zf L (kw h d.1) d.2
variable{m:AN}
theorem HH.d6{t:AC}{r:ec}{h:AH}(s:HH t r h m):(∀n∈(gS t r h m).ci.bq,(AA t.bq n).o3=T)/\∀v n,(n,v)∈(gS t r h m).ci.bq.zip (gS t r h m).eg->iV t n v:=by
 have C:=CY s.hv;have el:(gS t r h m).ci.bq=(dS r h m).bq.map (AA h.ci.bq)++(DT r).map (AA r.d5.ci.bq):=rfl;have ev:(gS t r h m).eg=(dS r h m).bq.map (AA h.eg)++(DT r).map (λk=>Uz t (AA r.d5.ci.bq k)):=rfl;have old:∀x∈(dS r h m).bq,(AA t.bq (AA h.ci.bq x)).o3=T/\iV t (AA h.ci.bq x) (AA h.eg x):=λx d=>by
  have d:=s.rem.d6.1 x d;have f:=(TS s.he).1 x d.1 d.2;unfold FU at f;split at f
  .cases f
  split at f
  .cases f
  split at f
  .cases f
  split at f
  .cases f
  rename_i a1 a2 D E;refine⟨by simpa using a2,Classical.not_not.1 D,λj u z=>?_⟩;have:=BY.1 (by simpa using E) j u U;simp[RJ]at this;omega
 have new:∀k∈DT r,iV t (AA r.d5.ci.bq k) (Uz t (AA r.d5.ci.bq k)):=λk A=>by
  have p:0<=k/\k<r.d5.ci.bq.length:=Db A;have q:=(Ez s.ro.right s.ro.Aah).1 _ (AG p.1 p.2);refine⟨by simp[Uz],λj u z=>?_⟩;simp only[Uz,az]at z|-;have:=Y8 s.hf C q.1 q.2 _ (AG u z);rw[show AA ((A4 t (AA r.d5.ci.bq k)).map λx=>x.Low) j=(AA (A4 t (AA r.d5.ci.bq k)) j).Low by grind[AA,x?]];omega
 refine ⟨λn hn=>?_,λv n o=>?_⟩
 .rw[el]at hn;rcases w?.1 hn with hn|hn
  .obtain⟨x,d,rfl⟩:=x_.1 hn;exact(old x d).1
  .obtain⟨k,A,rfl⟩:=x_.1 hn;exact(dX s.re).1 k A
 .rw[el,ev,List.zip_append V]at o;rcases w?.1 o with o|o
  .rw[y?,x_]at o;obtain⟨x,d,e⟩:=o;cases e;exact(old x d).2
  .rw[y?,x_]at o;obtain⟨x,d,e⟩:=o;cases e;exact new x d
end Go.Sf.Sc
namespace Go.Sf.Sc
open Go Go.Sf
variable{α β:Type}{i:Int}
theorem xJ[Inhabited α][Inhabited β]{a:List α}{b:List β}(d:0<=i)(e:i<a.length)(f:i<b.length):(AA a i,AA b i)∈a.zip b:=by
 refine List.mem_of_getElem? (i:=i.toNat) ?_;rw[List.getElem?_zip_eq_some]
 grind [AA,x?]
variable{m:AN}
theorem V4{t:AC}{r:ec}{h:AH}(s:IL t r h m):Cy t (MM t r h m)=(-1,0):=by
 have f:=s.f;have hv:=f.hv;have u:=CY hv;have put:=f.put;have C:=f.d7;obtain⟨F,G⟩:=f.d6;have L:=u.d6;have N:=u.d7;have p:W5 t (gS t r h m).ci (gS t r h m).eg:=⟨put.AbD,λi q o=>G _ _ (xJ q o (by rw[put.AbD];exact o))⟩;have d:=Zf (x:=gS t r h m) _ p (cz s.put).2;have z:∀e∈(gS t r h m).ci.ca,0<=e.fa/\e.fa<t.ca.length:=λe he=>by
  have:=(C e he).2;unfold Fw at this;simp only[gN,ml]at this;exact this.1.2
 have go:BW (gS t r h m).ci:=⟨s.few.1,s.few.2,λn hn=>by have:=put.kind n hn;omega,λe he=>⟨by have:=z e he;omega,(C e he).1⟩⟩;have E:(MM t r h m).ci=(gS t r h m).ci:=rfl;have ev:(MM t r h m).eg=(Bz r (cS r h m) m.ek).foldl CJ (gS t r h m).eg:=rfl;unfold Cy;rw[aE u?,E,ev,aE (by simp[Lw go]),aE (by simpa using d.1),BQ.2]
 .dsimp only;rw[BQ.2]
  .rfl
  intro i q o;have A:=AG q o;have D:Hj t (gS t r h m).ci i=0:=by
   unfold Hj De;rw[aE (by have:=z _ A;omega),(C _ A).2];rfl
  rw [D];rfl
 .intro i q o;have A:=AG q o;obtain⟨H,I⟩:=d.2 i q o;have D:FU t (AA (gS t r h m).ci.bq i) (AA ((Bz r (cS r h m) m.ek).foldl CJ (gS t r h m).eg) i)=0:=by
   unfold FU;rw[aE (by have:=put.kind _ A;omega),aE (by simp[F _ A]),aE (by simpa using H),aE];rw[C3];rintro⟨j,K,O,e⟩;have:=I j K U;simp[RJ]at e;omega
  rw [D];rfl
end Go.Sf.Sc
namespace Go.Sf
end Go.Sf
namespace Go.Sf.Sc
open Go Go.Sf
theorem RW{t:AC}{s:A5}{r:ec}(h:CW t s r=0):DM r.c9<=40:=by
 unfold CW at h;split at h
 .omega
 split at h
 .omega
 split at h
 .cases h
 rename_i z A p;have e:QR r=X:=m?
 unfold QR at e;simp only[gN,ml]at e;have q:r.c9.fu=1:=e.1.2;obtain⟨_,_,o⟩:=Qi (t:=t) (r:=r) U;unfold Lp at o;split at o
 .omega
 split at o
 .omega
 rename_i C D;have f:La r.c9=0:=U
 have j:du r.c9=X:=by
  cases u:du r.c9 with
  |true=>rfl|false=>unfold La at f;rw[QQ u]at f;cases f
 unfold du at j;have E:=DP r.c9;obtain⟨n,hn⟩:∃n,SizeOf.sizeOf r.c9=n+1:=⟨SizeOf.sizeOf r.c9-1,U⟩;rw[hn,R7,gN]at j;have d:=j.1;unfold Rs at d;rw[QQ q]at d;simp only[gN,ml]at d;rw[XN,z_ d.1];decide
section
variable{t:AC}{s:A5}{rules:List ec}
end
theorem Li(n:Nat):(Ak n).Nodup:=by
 unfold Ak;exact List.Pairwise.map _ (λa b h e=>h (Int.ofNat.inj e)) List.nodup_range
def ip(l:Fp)(n:Int):Bool:=!gp (λi=>!hasB l i) 0 n
variable{n:Nat}
theorem fP{l:Fp}(e:l.Nodup)(h:∀x∈l,0<=x/\x<n):ip l n=decide (l.length=n):=by
 rw [Bool.eq_iff_iff,ml];unfold ip;rw[B_,BY];have p:=RG e h;refine⟨λf=>?_,λhn i j o=>?_⟩
 .have:=List.Nodup.length_le_of_subset (l₁:=Ak n) (l₂:=l) (Li n) (λx d=>by
   have:=f x (CB.1 d).1 (CB.1 d).2;simpa[Aq]using this)
  rw [Az]at this;omega
 .by_cases hi:i∈l
  .simp[Aq.2 hi]
  .have:=RG (l:=i::l) (n:=n) (List.nodup_cons.2 ⟨hi,e⟩) (λx d=>by
    rcases v?.1 d with rfl|d
    .exact⟨j,o⟩
    .exact h x d)
   simp at this;omega
section
variable{t:AC}{s:A5}{rules:List ec}
end
end Go.Sf.Sc
namespace Go.Sf.Sc
open Go Go.Sf
def Eo(s:A5)(r:ec)(l:Fp):ci:=⟨r.eh.ci.bq++(C8 s r l).map (AA r.d5.ci.bq),r.eh.ci.ca++(Ch s r l).map (Ri r (A0 s r l))⟩
def iR(s:A5)(r:ec)(l:Fp):Prop:=∀i∈Ch s r l,(AA r.d5.ci.ca i).fd∈A0 s r l/\(AA r.d5.ci.ca i).To∈A0 s r l
theorem kR{l:Fp}{i j:Int}(d:0<=j)(h:j<i):AA (l.take i.toNat) j=AA l j:=by
 unfold AA;rw[y!,y!,List.getElem?_take,QQ U]
theorem Ji{q:Int->Bool}{n x:Int}:x∈B5 q n↔(0<=x/\x<n)/\q x=X:=by
 unfold B5;rw[List.mem_filter];constructor
 .rintro⟨d,f⟩;obtain⟨k,j,rfl⟩:=x_.1 d;rw[z!]at j;have e:Int.ofNat k=(k:Int):=rfl;exact⟨⟨U,U⟩,f⟩
 .rintro⟨⟨d,f⟩,o⟩;exact⟨x_.2 ⟨x.toNat,z!.2 U,Int.toNat_of_nonneg d⟩,o⟩
section
variable{t:AC}{s:A5}{r:ec}
end
end Go.Sf.Sc
namespace Go.Sf.Sc
open Go Go.Sf
structure bK(t:AC)(s:A5):Prop where
 ok:D7 t
 node:∀i:Int,0<=i->i<t.bq.length->Tt (AA s.bq i)=X/\(0<=par t i->AA s.bq (par t i)=AA s.bq i)
 edge:∀i:Int,0<=i->i<t.ca.length->AA s.bq (AA t.ca i).fd=AA s.ca i/\(AA s.bq (AA t.ca i).To≠AA s.ca i↔AA s.ca i=2)
theorem jw{t:AC}{s:A5}(h:Je t s=0):bK t s:=by
 obtain ⟨C,q⟩:=Tu h;unfold Je at h;rw[aE (by simp[C]),aE (by simp[q.pr,q.sr])]at h;cases hn:fst (RS t s) 0 t.bq.length with
 |some e=>
  rw [hn]at h;simp only at h;obtain⟨i,_,_,d,_⟩:=DG hn;unfold RS at d;split at d
  .cases d;cases h
  .split at d
   .cases d;cases h
   .cases d
 |none=>
  rw [hn]at h;simp only at h;have A:=Uq h;rw[BQ]at hn;refine⟨q.types,λi j o=>?_,λi j o=>?_⟩
  .have:=hn i j o;unfold RS at this;split at this
   .cases this
   .rename_i z;split at this
    .cases this
    .rename_i f;refine⟨t?,λu=>?_⟩;by_cases p:AA s.bq (par t i)=AA s.bq i
     .exact p
     .exact absurd ⟨u,p⟩ f
  .have:=A i j o;unfold VN at this;split at this
   .cases this
   .split at this
    .cases this
    next f=>simp only[Bool.or_eq_true,B_,decide_eq_false_iff_not,beq_iff_eq,not_or,Decidable.not_not]at f;refine⟨f.1,?_⟩;have D:=f.2;by_cases u:AA s.bq (AA t.ca i).To=AA s.ca i<;>by_cases p:AA s.ca i=2<;>simp_all
theorem iJ{t:AC}{s:A5}(h:bK t s):∀(n:Nat)(a:Int),0<=a->a<t.bq.length->∀x∈F3 t n a,AA s.bq x=AA s.bq a
 |0,_,_,_,x,d=>by simp[F3]at d|n+1,a,a0,a1,x,d=>by
  rw [F3,aE U]at d;rcases v?.1 d with rfl|d
  .rfl
  .by_cases e:0<=par t a
   .have f:=h.ok.par a a0 a1;rw[iJ h n (par t a) e U x d];exact(h.node a a0 a1).2 e
   .cases n with
    |zero=>simp[F3]at d|succ n=>rw[F3,QQ U]at d;cases d
variable{a b:Int}
theorem fj{t:AC}{s:A5}(h:bK t s)(a0:0<=a)(a1:a<t.bq.length)(d:x9 t a b=X):AA s.bq b=AA s.bq a:=by
 unfold x9 at d;obtain⟨x,f,e⟩:=w_.1 d;rw[ml]at e;rw[e];exact iJ h _ a a0 a1 x f
theorem YL{t:AC}{s:A5}{r:ec}(h:CW t s r=0):Je t s=0/\Ds t r=0:=by
 unfold CW at h;split at h
 .omega
 split at h
 .omega
 exact ⟨U,U⟩
theorem jn{t:AC}{r:ec}(h:Ds t r=0):QB t r.d5.ci (DT r) (F7 r)=X:=by
 cases d:QB t r.d5.ci (DT r) (F7 r)with
 |true=>rfl|false=>
  unfold Ds at h;rw[d]at h
  grind
theorem fS{t:AC}{s:A5}{r:ec}{l:Fp}(h:CW t s r=0)(H:hasB l 2=X->hasB l 1=X/\hasB l 3=X):iR s r l:=by
 obtain ⟨N,O⟩:=YL h;obtain⟨_,ho,_,_⟩:=FA h;have p:=jw N;have j:=jn O;have o:=Ez ho.right ho.Aah;intro i hi;obtain⟨⟨F,G⟩,f⟩:=Ji.1 hi;unfold Nu at f;rw[gN,B_]at f;have u:i∈F7 r:=by
  show i∈B5 (λi=>!hasB r.eE.ca i) _;exact Ji.2 ⟨⟨F,G⟩,by rw[f.1];rfl⟩
 have d:De t r.d5.ci i=X:=by
  unfold QB at j;rw[gN,B_,B_]at j;have:=w!.1 j.2 i u;simpa using this
 unfold De Fw at d;simp only[gN,ml]at d;obtain⟨⟨_,e0,P⟩,Q,R⟩:=d;have hf:=ho.right.fit _ (AG F G);have A:=o.1 _ (AG (l:=r.d5.ci.bq) (i:=(AA r.d5.ci.ca i).fd) U U);have q:=o.1 _ (AG (l:=r.d5.ci.bq) (i:=(AA r.d5.ci.ca i).To) U U);have L:=fj p A.1 A.2 Q;have s2:=fj p q.1 q.2 R;obtain⟨S,ε⟩:=p.edge _ e0 P;have key:∀x:Int,0<=x->x<r.d5.ci.bq.length->hasB l (AA s.bq (AA r.d5.ci.bq x))=X->x∈A0 s r l:=λx I x1 K=>by
  by_cases C:x∈r.eE.bq
  .exact z? _ C
  .refine A_ _ (Ji.2 ⟨⟨I,x1⟩,?_⟩);unfold Nv;have:hasB r.eE.bq x=T:=by rw[<-B',Aq];exact C
   rw [this,K];rfl
 refine ⟨key _ U U (by rw[<-L,S];exact f.2),key _ U U ?_⟩;rw[<-s2];by_cases D:AA s.ca (AA r.d5.ci.ca i).fa=2
 .rw[D]at f;obtain⟨κ,η⟩:=H f.2;have z:=(p.node _ q.1 q.2).1;rw[<-s2]at z;unfold Tt at z;simp only[gN,ml]at z;have:AA s.bq (AA t.ca (AA r.d5.ci.ca i).fa).To=1\/AA s.bq (AA t.ca (AA r.d5.ci.ca i).fa).To=2\/AA s.bq (AA t.ca (AA r.d5.ci.ca i).fa).To=3:=U
  rcases this with e|e|e<;>rw[e]
  .exact κ
  .exact f.2
  .exact η
 .have:AA s.bq (AA t.ca (AA r.d5.ci.ca i).fa).To=AA s.ca (AA r.d5.ci.ca i).fa:=by
   by_cases E:AA s.bq (AA t.ca (AA r.d5.ci.ca i).fa).To=AA s.ca (AA r.d5.ci.ca i).fa
   .exact E
   .exact absurd (ε.1 E) D
  rw [this];exact f.2
end Go.Sf.Sc
namespace Go.Sf
theorem UO{σ ρ β:Type}{f:σ->Option (B3 σ ρ)}{k:σ->Option β}{j:ρ->Option β}{Q:β->Prop}(I:Nat->σ->Prop)(J:σ->Prop)(n:Nat){s:σ}(o:I n s)(p:∀n s,I (n+1) s->(∃s',f s=some (.next s')/\I n s')\/∃s',f s=some (.brk s')/\J s')(q:∀s,I 0 s->∃s',f s=some (.brk s')/\J s')(u:∀s,J s->∃r,k s=some r/\Q r):∃r,AL (EI f s) k j=some r/\Q r:=by
 have key:∀(n:Nat)(s:σ),I n s->∃s',LB f s (.inl s')/\J s':=λn=>by
  induction n with
  |zero=>
   intro s d;obtain⟨s',e,h⟩:=q s d;exact⟨s',.brk e,h⟩
  |succ n C=>
   intro s d;rcases p n s d with⟨s',e,h⟩|⟨s',e,h⟩
   .obtain⟨s2,z,A⟩:=C s' h;exact⟨s2,.next e z,A⟩
   .exact⟨s',.brk e,h⟩
 obtain ⟨s',e,h⟩:=key n s o;rw[e.eq,Bj];exact u s' h
variable{σ β:Type}{a b:Int}
theorem XW{f:Int->σ->Option σ}{k:σ->Option β}{P:Option β->Prop}(I:Int->σ->Prop){s:σ}(d:a<=b)(e:I a s)(h:∀i s,a<=i->i<b->I i s->∃s',f i s=some s'/\I (i+1) s')(j:∀s,I b s->P (k s)):P ((BB f a b s).bind k):=by
 obtain ⟨s',o,p⟩:=Ok I d e h;rw[o,bs];exact j s' p
end Go.Sf
namespace Go.Sf.Sc
open Go Go.Sf
variable{α β:Type}{i:Int}
theorem CZ[Inhabited α][Inhabited β]{l:List α}{g:α->β}(d:0<=i)(e:i<l.length):AA (l.map g) i=g (AA l i):=by
 unfold AA;rw[y!,y!,List.getElem?_map,x? U];rfl
theorem pH(l:Fp)(n:Int):(AX l n).Pairwise (·<·):=by
 unfold AX;refine List.Pairwise.filter _ ?_;rw[List.pairwise_map];exact List.Pairwise.imp (λh=>Int.ofNat_lt.2 h) List.pairwise_lt_range
theorem MA{l:Fp}{n x:Int}:x∈AX l n↔(0<=x/\x<n)/\x∉l:=by
 show x∈B5 (λi=>!hasB l i) n↔_;rw[Ji,B_,<-B',Aq]
def Eu(θ yN:Fp)(gn:Nat)(v:Int):Int:=if hasB θ v=X then AA yN (Ao θ v)else(gn:Int)+((AX θ v).length:Int)
structure WS(I0 J θ yN:Fp)(gn:Nat):Prop where
 jt:∀v∈J,v∈θ
 ylen:yN.length=θ.length
 yr:∀k∈yN,0<=k/\k<gn
 ynd:yN.Nodup
 fit:∀v∈θ,v∉J->AA yN (Ao θ v)∉I0
 ir:∀k∈I0,0<=k/\k<gn
def Om(I0 J θ yN:Fp)(gn:Nat)(v:Int):Fp:=I0++(AX J v).map (Eu θ yN gn)
variable{v:Int}
theorem tS{l:Fp}(d:0<=v)(h:v∈l):AX l (v+1)=AX l v:=by
 rw [Io l d,Aq.2 h];simp
theorem gq{l:Fp}(d:0<=v)(h:v∉l):AX l (v+1)=AX l v++[v]:=by
 have:hasB l v=T:=by rw[<-B',Aq];exact h
 rw [Io l d,this];simp
variable{w:Int}
theorem mX{l:Fp}(d:0<=v)(h:v<=w):(AX l v).length<=(AX l w).length:=by
 have key:∀m:Nat,(AX l v).length<=(AX l (v+m)).length:=by
  intro m
  induction m with
  |zero=>simp|succ m e=>
   rw [show v+((m+1:Nat):Int)=v+m+1 by omega,Io l U,a5];omega
 have:=key (w-v).toNat
 rwa [show v+((w-v).toNat:Int)=w by omega]at this
section
variable{I0 J θ yN:Fp}{gn:Nat}
variable{v:Int}
theorem je(h:WS I0 J θ yN gn)(hv:v∈θ):Eu θ yN gn v=AA yN (Ao θ v)/\(0<=Eu θ yN gn v/\Eu θ yN gn v<gn):=by
 obtain ⟨a,b,_,_⟩:=BH hv;have e:Eu θ yN gn v=AA yN (Ao θ v):=v5
 rw [e];exact⟨rfl,h.yr _ (AG a (by rw[h.ylen];exact b))⟩
theorem RL(hv:v∉θ):Eu θ yN gn v=(gn:Int)+((AX θ v).length:Int):=by
 unfold Eu;rw[aE (by rw[Aq];exact hv)]
variable{k:Int}
theorem Yh(h:WS I0 J θ yN gn)(d:k∈Om I0 J θ yN gn v):0<=k/\k<(gn:Int)+((AX θ v).length:Int):=by
 rcases w?.1 d with d|d
 .have:=h.ir k d;omega
 .obtain⟨w,o,rfl⟩:=x_.1 d;obtain⟨⟨w0,p⟩,_⟩:=MA.1 o;by_cases e:w∈θ
  .have:=(je h e).2;omega
  .rw[RL e];have j:=gq w0 e;have f:=mX (l:=θ) (v:=w+1) (w:=v) U U;rw[j,a5]at f;simp at f;omega
theorem vz(h:WS I0 J θ yN gn)(D:0<=v)(hv:v∉J):Eu θ yN gn v∉Om I0 J θ yN gn v:=λo=>by
 by_cases p:v∈θ
 .obtain⟨e,_,E⟩:=je h p;rcases w?.1 o with o|o
  .exact h.fit v p hv (e▸o)
  .obtain⟨w,A,q⟩:=x_.1 o;obtain⟨⟨w0,F⟩,_⟩:=MA.1 A;by_cases j:w∈θ
   .obtain⟨f,_,_⟩:=je h j;obtain⟨a,b,C,_⟩:=BH p;obtain⟨c,d,c3,_⟩:=BH j;rw[e,f]at q;have z:=Df h.ynd a (by rw[h.ylen];exact b);have u:=Df h.ynd c (by rw[h.ylen];exact d);rw[q,z]at u;rw[u,c3]at C;omega
   .rw[RL j]at q;omega
 .have:=Yh h o;rw[RL p]at this;omega
theorem vG(d:0<=v)(hv:v∈J):Om I0 J θ yN gn (v+1)=Om I0 J θ yN gn v:=by
 unfold Om;rw[tS d hv]
theorem vH(d:0<=v)(hv:v∉J):Om I0 J θ yN gn (v+1)=Om I0 J θ yN gn v++[Eu θ yN gn v]:=by
 unfold Om;rw[gq d hv,List.map_append,bk];rfl
end
variable{v:Int}
theorem QZ{J S:Fp}(o:v∉J)(j:v∈S):Ao (J++S) v=(J.length:Int)+Ao S v:=by
 obtain ⟨a,b,c,d⟩:=BH j;obtain⟨e,f,g,h⟩:=BH (A_ J j);have p:AA (J++S) ((J.length:Int)+Ao S v)=v:=by
  rw [IN,aE U];have:(((J.length:Int)+Ao S v).toNat-J.length)=(Ao S v).toNat:=U
  unfold AA at c;rw[this];exact c
 by_cases q:(J.length:Int)+Ao S v<Ao (J++S) v
 .exact absurd p (h _ U q)
 by_cases u:Ao (J++S) v<(J.length:Int)
 .rw[IN,QQ U]at g;exact absurd (g▸AG e u) o
 .rw[IN,aE U]at g;by_cases z:Ao (J++S) v<(J.length:Int)+Ao S v
  .have:=d (Ao (J++S) v-J.length) U U;refine absurd ?_ this;unfold AA;rw[show(Ao (J++S) v-(J.length:Int)).toNat=(Ao (J++S) v).toNat-J.length by omega];exact g
  .omega
theorem Uw{J S:Fp}(h:v∈J):Ao (J++S) v=Ao J v:=by
 obtain ⟨a,b,c,d⟩:=BH h;obtain⟨e,f,g,k⟩:=BH (z? S h);by_cases j:Ao J v<Ao (J++S) v
 .exact absurd (by rw[IN,QQ U];exact c) (k _ a j)
 by_cases o:Ao (J++S) v<Ao J v
 .rw[IN,QQ U]at g;exact absurd g (d _ e o)
 omega
def PA(r:ec)(θ yN:Fp)(gn:Nat)(i:Int):Bu:=⟨(AA r.d5.ci.ca i).fa,Eu θ yN gn (AA r.d5.ci.ca i).fd,Eu θ yN gn (AA r.d5.ci.ca i).To⟩
def Eg(s:A5)(r:ec)(l:Fp):Fp:=r.eE.ca++Ch s r l
theorem cK{I0 J θ yN:Fp}{gn:Nat}(h:WS I0 J θ yN gn)(f:I0.Nodup):∀n:Nat,(Om I0 J θ yN gn (n:Int)).Nodup
 |0=>by
  have:Om I0 J θ yN gn ((0:Nat):Int)=I0:=by unfold Om;simp[AX]
  rw [this];exact f
 |n+1=>by
  have o:=cK h f n;rw[show(((n+1:Nat):Int))=(n:Int)+1 by omega];by_cases d:(n:Int)∈J
  .rw[vG U d];exact o
  .rw[vH U d];rw[List.nodup_append];refine⟨o,V,λa p b j e=>?_⟩;rw[List.mem_singleton]at j;exact vz h U d (j▸e▸p)
variable{α:Type}
theorem jq{l:List α}{n:Int}(d:0<=n)(e:n<=l.length):slc l 0 n=some (l.take n.toNat):=by
 unfold slc;rw[QQ U];simp
end Go.Sf.Sc
namespace Go.Sf.Sc
open Go Go.Sf
theorem Y7:∀(l:Fp)(a b:Int),(∀x∈l,a<=x/\x<b)->l.Pairwise (·<·)->a<=b->(l.length:Int)<=b-a
 |[],a,b,_,_,h=>by simp;omega|x::l,a,b,f,d,h=>by
  have j:=f x (.head _);rw[A']at d;have:=Y7 l (x+1) b (λy e=>⟨by have:=d.1 y e;omega,(f y (.tail _ e)).2⟩) d.2 U;rw[ae];omega
theorem bQ:∀(l:Fp)(a:Int),(∀x∈l,a<=x/\x<a+l.length)->l.Pairwise (·<·)->∀i:Nat,i<l.length->l[i]?=some (a+i)
 |[],a,_,_,i,hi=>by cases hi
 |x::l,a,j,f,i,hi=>by
  have p:=j x (.head _);rw[A']at f;have o:=Y7 l (x+1) (a+(x::l).length) (λy d=>⟨by have:=f.1 y d;omega,(j y (.tail _ d)).2⟩) f.2 U;rw[ae]at o;have e:x=a:=U
  subst e;cases i with
  |zero=>simp|succ i=>
   rw [List.getElem?_cons_succ,bQ l (x+1) (λy d=>⟨by have:=f.1 y d;omega,by have:=(j y (.tail _ d)).2;rw[ae]at this;omega⟩) f.2 i (by rw[ae]at hi;omega)];congr 1;omega
variable{n:Nat}
theorem XD{l:Fp}(h:∀x∈l,0<=x/\x<n)(d:l.Pairwise (·<·))(f:l.length=n):l=Ak n:=by
 refine List.ext_getElem? λi=>?_;by_cases hi:i<n
 .rw[bQ l 0 (λx e=>by have:=h x e;omega) d i U];simp[Ak,hi]
 .rw[A! U,A! (by rw[Az];omega)]
variable{i:Int}
theorem Hy(d:0<=i)(e:i<n):AA (Ak n) i=i:=by
 have:=GH (n:=n) (λx=>x) d e;simpa using this
theorem ot{g:ci}(f:BW g){n m:Nat}(hn:n<=g.bq.length)(j:m<=g.ca.length)(h:∀i:Int,0<=i->i<m->(0<=(AA g.ca i).fd/\(AA g.ca i).fd<n)/\0<=(AA g.ca i).To/\(AA g.ca i).To<n):DU g ⟨Ak n,Ak m⟩=0:=by
 have a0:∀{k N:Nat},k<=N->M1 (Ak k) N=0:=by
  intro k N u;unfold M1;rw[BQ.2]
  .rfl
  intro i e d;rw[Az]at d;rw[Hy e d,aE U,aE];rintro⟨z,q⟩;rw[Hy U U]at q;omega
 unfold DU Ms;rw[aE (by simp[Lw f]),a0 hn,a0 j,aE V,aE V,BQ.2]
 .rfl
 intro i e d;rw[Az]at d;dsimp only;obtain⟨o,p⟩:=h i e d;rw[Hy e d,Aq.2 (CB.2 o),Aq.2 (CB.2 p)];rfl
theorem S3(d:0<=i)(e:i<n):Ao (Ak n) i=i:=by
 have:=Df (Li n) d (by rw[Az];exact e)
 rwa [show AA (Ak n) i=i from by have:=GH (n:=n) (λx=>x) d e;simpa using this]at this
theorem dU(n:Nat):AX [] n=Ak n:=by
 unfold AX Ak;simp[hasB]
structure RX(r:ec):Prop where
 ls:r.eh.ed=[]
 lt:r.eh.f0=[]
 rs:r.d5.ed=[]
 lv:r.eh.ek=0
 inj:r.ff=X
 cond:r.c9.fu=1
 kn:r.im.bq=Ak r.eh.ci.bq.length
 ke:r.im.ca=Ak r.eh.ci.ca.length
theorem NX{t:AC}{s:A5}{r:ec}(h:CW t s r=0):RX r/\vA t r.eh.ci.bq=X/\vA t r.d5.ci.bq=X:=by
 obtain ⟨_,ho,_,_⟩:=FA h;unfold CW at h;split at h
 .omega
 split at h
 .omega
 split at h
 .cases h
 rename_i p;split at h
 .rename_i o;have j:QR r=X:=m?
  unfold QR at j;simp only[gN,ml]at j o;obtain⟨⟨⟨⟨a,b,c,d⟩,e⟩,f⟩,g,k⟩:=j;exact⟨⟨z_ a,z_ b,z_ c,d,e,f,XD ho.part.d6.1 ho.part.d6.2 g,XD ho.part.d7.1 ho.part.d7.2 k⟩,o.1⟩
 .cases h
structure EY(p g:ci)(M:cE):Prop where
 nl:M.bq.length=p.bq.length
 el:M.ca.length=p.ca.length
 node:∀i:Int,0<=i->i<p.bq.length->(0<=AA M.bq i/\AA M.bq i<g.bq.length)/\AA g.bq (AA M.bq i)=AA p.bq i
 edge:∀i:Int,0<=i->i<p.ca.length->(0<=AA M.ca i/\AA M.ca i<g.ca.length)/\AA g.ca (AA M.ca i)=⟨(AA p.ca i).fa,AA M.bq (AA p.ca i).fd,AA M.bq (AA p.ca i).To⟩
 nnd:M.bq.Nodup
 Aa6:M.ca.Nodup
theorem EY.chk{t:AC}{p g:ci}{M:cE}(h:EY p g M)(hv:(A8 t).2=0)(f:BW p)(tp:CS t p=X)(j:BW g)(o:CS t g=X)(inj:Bool):EN t p g M inj=0:=by
 have u:EF t p g=0:=by
  unfold EF;rw[aE u?,aE (by simp[Lw f]),aE (by simp[Lw j]),tp,o];rfl
 have z:JC t p g M=0:=by
  unfold JC;rw[aE (by have:=h.nl;have:=h.el;omega),BQ.2]
  .dsimp only;rw[BQ.2]
   .rfl
   intro i d q;obtain⟨A,e⟩:=h.edge i d (by have:=h.el;omega);unfold Dm;rw[aE U,e,aE V,aE V]
  .intro i d q;obtain⟨A,e⟩:=h.node i d (by have:=h.nl;omega);unfold Gu;rw[aE U,e,cH ((Ez f tp).1 _ (AG d (by have:=h.nl;omega))).1,aE a_]
 unfold EN G7;rw[aE o?,aE (by simp[z]),Hg.2 h.nnd,Hg.2 h.Aa6,aE (by cases inj<;>decide)]
def Ce(r:ec)(g:ci)(yN:Fp):ci:=⟨g.bq++(AX r.eE.bq r.d5.ci.bq.length).map (AA r.d5.ci.bq),g.ca++(AX r.eE.ca r.d5.ci.ca.length).map (PA r r.eE.bq yN g.bq.length)⟩
section
variable{t:AC}{s:A5}{r:ec}{h:AH}{M:cE}
variable{n:Nat}
theorem TO{d:Fp}(f:d.length=n):D8 d (Ak n)=[]:=by
 unfold D8;have:AX (Ak n) d.length=[]:=List.eq_nil_iff_forall_not_mem.2 λx e=>by
  obtain ⟨e,hn⟩:=OE.1 e;exact hn (CB.2 ⟨e.1,U⟩)
 rw [this];rfl
theorem Rd(d:RX r)(e:EY r.eh.ci h.ci M):J9 h.ci r.im M=⟨Ak h.ci.bq.length,Ak h.ci.ca.length⟩:=by
 unfold J9;rw[d.kn,d.ke,TO e.nl,TO e.el,dU,dU]
theorem k8{t:AC}{h:AH}(j:(A8 t).2=0)(o:Bt h.ci=0)(p:h.eg.length=h.ci.bq.length)(q:∀i:Int,0<=i->i<h.ci.bq.length->FU t (AA h.ci.bq i) (AA h.eg i)=0)(u:∀i:Int,0<=i->i<h.ci.ca.length->Hj t h.ci i=0):(Cy t h).2=0:=by
 unfold Cy;have z:fst (λi=>(nz (FU t (AA h.ci.bq i) (AA h.eg i))).map λe=>(i,e)) 0 h.ci.bq.length=none:=BQ.2 λi d f=>by rw[q i d f];rfl
 have A:fst (λi=>(nz (Hj t h.ci i)).map λe=>(i,e)) 0 h.ci.ca.length=none:=BQ.2 λi d f=>by rw[u i d f];rfl
 rw [aE (λk=>k j),aE (λk=>k o),aE (λk=>k p),z,A];rfl
theorem EY.mor{a b:ci}{m:cE}(h:EY a b m)(f:BW a)(j:BW b):Gp a b m=0:=by
 unfold Gp;rw[aE (by simp[Lw f]),aE (by simp[Lw j]),aE (by simp[h.nl,h.el]),BQ.2]
 .dsimp only;rw[BQ.2]
  .rfl
  intro i d o;obtain⟨p,e⟩:=h.edge i d (by have:=h.el;omega);unfold Dm;rw[aE U,e,aE V,aE V]
 .intro i d o;obtain⟨p,e⟩:=h.node i d (by have:=h.nl;omega);unfold JP;rw[aE U,aE c!]
theorem ru(o:RX r)(ho:Pc t r)(z:BW h.ci)(d:EY r.eh.ci h.ci M):(Ln (Ib r.eh.ci h.ci M) h.ci r.im M)=(J9 h.ci r.im M,0):=by
 have u:=d.nl;have C:=d.el;have A:BW (Ib r.eh.ci h.ci M):=by
  refine ⟨by simp[Ib,u];exact ho.left.d6,ho.left.d7,λn hn=>?_,λe he=>?_⟩
  .obtain⟨x,F,rfl⟩:=x_.1 hn;obtain⟨i,f,j,rfl⟩:=A9 F;have:=(d.node i f U).1;exact z.kind _ (AG this.1 this.2)
  .have:=ho.left.fit e he;simp only[Ib,az,u];exact this
 have D:EY (Ib r.eh.ci h.ci M) h.ci M:=⟨by simp[Ib],C,λi f j=>by
  have j:i<(M.bq.length:Int):=by simpa[Ib]using j
  exact ⟨(d.node i f U).1,(CZ f j).symm⟩,d.edge,d.nnd,d.Aa6⟩
 have p:=D.mor A z;have E:DU (Ib r.eh.ci h.ci M) r.im=0:=by
  have:=ot A (n:=r.eh.ci.bq.length) (m:=r.eh.ci.ca.length) (by simp[Ib,u]) (by simp[Ib]) λi f j=>(ho.left.fit _ (AG f j)).2
  rwa [show A3.mk (Ak r.eh.ci.bq.length) (Ak r.eh.ci.ca.length)=r.im by rw[<-o.kn,<-o.ke]]at this
 unfold Ln;rw[aE (by simp[p]),aE (by simp[E]),aE,aE]
 .rw[C3];rintro⟨i,f,j,e⟩;unfold Mo at e;rw[o.kn,TO d.nl]at e;simp[hasB]at e
 .have key:∀{q:Fp}{n:Nat},q.length=n->wl q (Ak n)=T:=by
   intro q n G;unfold wl;rw[BY];intro a a0 a1;rw[BY];intro b H I;rw[Aq.2 (CB.2 ⟨a0,U⟩),Aq.2 (CB.2 ⟨U,U⟩)];simp
  rw [o.kn,o.ke,key d.nl,key d.el];decide
end
end Go.Sf.Sc
namespace Go.Sf.Sc
open Go Go.Sf
section
variable{t:AC}{s:A5}{r:ec}{h:AH}{M:cE}
variable{v:Int}
theorem Ow{J yN:Fp}{gn:Nat}:Eu J yN gn v=if v∈J then AA yN (Ao J v)else(gn:Int)+(AX J v).length:=by
 unfold Eu;by_cases hv:v∈J
 .rw[QQ (Aq.2 hv),QQ hv]
 .rw[aE (by rw[Aq];exact hv),aE hv]
theorem WY(e:RX r)(ho:Pc t r)(l1:r.eE.bq.length=r.eh.ci.bq.length)(d:EY r.eh.ci h.ci M)(f:0<=v)(j:v<r.d5.ci.bq.length):
  AA (cS r h ⟨M,[]⟩).bq v=Eu r.eE.bq M.bq h.ci.bq.length v:=by
 have hd:dS r h ⟨M,[]⟩=⟨Ak h.ci.bq.length,Ak h.ci.ca.length⟩:=Rd e d;rw[show AA (cS r h ⟨M,[]⟩).bq v=M2 r.im.bq r.eE.bq (M.bq.map (AA (EE h (dS r h ⟨M,[]⟩)).bq)) (dS r h ⟨M,[]⟩).bq.length v from XO f j,hd,Ow,e.kn];unfold M2;by_cases hv:v∈r.eE.bq
 .obtain⟨a,b,_,_⟩:=BH hv;have:=(d.node _ a U).1;rw[QQ (Aq.2 hv),QQ hv,Hy a U,CZ a (by have:=d.nl;omega)];show AA (E9 h.ci.bq.length (Ak h.ci.bq.length)) _=_;rw[KE this.1 this.2,S3 this.1 this.2]
 .rw[aE (by rw[Aq];exact hv),aE hv,Az]
theorem ni(e:RX r)(f:BW h.ci)(j:EY r.eh.ci h.ci M):(Bw h (dS r h ⟨M,[]⟩)).ci=h.ci/\(Bw h (dS r h ⟨M,[]⟩)).eg=(Ak h.ci.bq.length).map (AA h.eg):=by
 have hd:dS r h ⟨M,[]⟩=⟨Ak h.ci.bq.length,Ak h.ci.ca.length⟩:=Rd e j;rw[hd];refine⟨?_,rfl⟩;show ci.mk ((Ak h.ci.bq.length).map (AA h.ci.bq)) ((Ak h.ci.ca.length).map λx=>RF (E9 h.ci.bq.length (Ak h.ci.bq.length)) (AA h.ci.ca x))=h.ci;rw[P7];have:((Ak h.ci.ca.length).map λx=>RF (E9 h.ci.bq.length (Ak h.ci.bq.length)) (AA h.ci.ca x))=(Ak h.ci.ca.length).map (AA h.ci.ca):=by
  refine A? λx d=>?_;have d:=CB.1 d;have hf:=(f.fit _ (AG d.1 d.2)).2;unfold RF;rw[KE hf.1.1 hf.1.2,KE hf.2.1 hf.2.2,S3 hf.1.1 hf.1.2,S3 hf.2.1 hf.2.2]
 rw [this,P7]
theorem ZG(e:RX r)(ho:Pc t r)(l1:r.eE.bq.length=r.eh.ci.bq.length)(j:BW h.ci)(f:EY r.eh.ci h.ci M):
  (CL t r (Bw h (dS r h ⟨M,[]⟩)) (cS r h ⟨M,[]⟩)).ci=Ce r h.ci M.bq:=by
 unfold CL M4 Oo Ce;rw[(ni e j f).1];dsimp only;congr 2;refine A? λk d=>?_;have d:0<=k/\k<r.d5.ci.ca.length:=Db d;have hf:=(ho.right.fit _ (AG d.1 d.2)).2;unfold RF PA;rw[WY e ho l1 f hf.1.1 hf.1.2,WY e ho l1 f hf.2.1 hf.2.2]
variable{m:AN}
theorem nj(hf:Ay t)(d:RX r)(e:SV t r.eh r.c9 h m r.ff=0):LY t r.eh r.c9 h m r.ff=(X,0):=by
 have f:(wS t r.eh r.c9 h m r.ff).2=0:=by
  unfold wS;rw[aE c!];have:=DP r.c9;obtain⟨n,hn⟩:∃n,SizeOf.sizeOf r.c9=n+1:=⟨SizeOf.sizeOf r.c9-1,U⟩;rw[hn,Cs,aE v6,aE v6,aE v6,aE v6]
 unfold LY;rw[f];rfl
theorem io(hf:Ay t)(fr:EK r)(z:CW t s r=0)(hh:(Cy t h).2=0)(A:EY r.eh.ci h.ci M)(L:(Ce r h.ci M.bq).bq.length<=40)(N:(Ce r h.ci M.bq).ca.length<=80):
  ∃st,Bh t r h ⟨M,[]⟩=(st,0)/\st.fq.ci=Ce r h.ci M.bq/\(Cy t st.fq).2=0:=by
 obtain ⟨_,ho,l1,l2⟩:=FA z;obtain⟨j,_⟩:=NX z;obtain⟨_,o⟩:=YL z;obtain⟨hv,hO⟩:=NE hf hh;obtain⟨H,O,_⟩:=Qi o;have d:∀b,EN t r.eh.ci h.ci M b=0:=A.chk hv ho.left ho.Abp hO.g hO.ty;have f:FI t r.eh h M=([],0):=by
  unfold FI N1;rw[aE (by simp[H,hh]),aE p!];unfold G2;rw[j.ls,j.lt,j.lv];rfl
 have C:=ru j ho hO.g A;have D:SV t r.eh r.c9 h ⟨M,[]⟩ r.ff=0:=Vf o hh (d _) (by rw[f]) (by rw[f]);have p:=nj hf j D;have F:=ZG (t:=t) j ho l1 hO.g A;have q:Bz r (cS r h ⟨M,[]⟩) []=[]:=by unfold Bz;rw[j.rs];rfl
 have e:Bh t r h ⟨M,[]⟩=Vm t r h ⟨M,[]⟩:=by
  unfold Bh;rw[aE r?,aE (by simp[hh]),aE p!,f,aE V,aE V,C,aE V,p,aE V,aE V]
 have u:∀x:AH,HD t x []=(x,0):=λx=>by
  unfold HD;rw[aE (by unfold O9;rw[C3];rintro⟨i,P,K,_⟩;simp at K;omega)];rfl
 have G:Bh t r h ⟨M,[]⟩=(CA t r h ⟨M,[]⟩,0):=by
  have E:HD t (CL t r (Bw h (dS r h ⟨M,[]⟩)) (cS r h ⟨M,[]⟩)) (Bz r (cS r h ⟨M,[]⟩) [])=(CL t r (Bw h (dS r h ⟨M,[]⟩)) (cS r h ⟨M,[]⟩),0):=by rw[q,u]
  rw [e];unfold Vm CA MM;dsimp only;rw[aE (by rw[E];simp),aE (by rw[E];dsimp only;rw[F];omega),E,q];rfl
 obtain ⟨I,_⟩:=Oe hf fr (RW z) (h:=h) (m:=⟨M,[]⟩) (by rw[G]);exact⟨_,G,F,congrArg Prod.snd (V4 I)⟩
end
end Go.Sf.Sc
namespace Go.Sf.Sc
open Go Go.Sf
theorem iI{t:AC}(e:D6 t t.bq.length):∀(n:Nat)(a:Int),0<=a->a<t.bq.length->∀x∈F3 t n a,x=a\/∃c:Int,(0<=c/\c<t.bq.length)/\x=par t c
 |0,_,_,_,x,d=>by simp[F3]at d|n+1,a,a0,a1,x,d=>by
  rw [F3,aE U]at d;rcases v?.1 d with rfl|d
  .exact .inl rfl
  .by_cases f:0<=par t a
   .have:=e a a0 a1;rcases iI e n (par t a) f U x d with rfl|h
    .exact .inr ⟨a,⟨a0,a1⟩,rfl⟩
    .exact .inr h
   .cases n with
    |zero=>simp[F3]at d|succ n=>rw[F3,QQ U]at d;cases d
variable{a b:Int}
theorem sL{t:AC}(f:D6 t t.bq.length){l:Fp}(d:vA t l=X)(a0:0<=a)(a1:a<t.bq.length)(j:b∈l)(h:x9 t a b=X):a=b:=by
 unfold x9 at h;obtain⟨x,o,e⟩:=w_.1 h;rw[ml]at e;subst e;rcases iI f _ a a0 a1 b o with e|⟨c,⟨p,q⟩,e⟩
 .exact e.symm
 .unfold vA at d;rw[B_,w!]at d;have:=d b j;exact absurd (w_.2 ⟨AA t.bq c,AG p q,by rw[ml];exact e.symm⟩) this
section
variable{t:AC}{s:A5}{r:ec}{l:Fp}
variable{i:Int}
theorem Zs(d:0<=i)(e:i<r.eh.ci.bq.length):AA (Eo s r l).bq i=AA r.eh.ci.bq i:=DV d e
theorem jK(d:0<=i)(e:i<r.eh.ci.ca.length):AA (Eo s r l).ca i=AA r.eh.ci.ca i:=DV d e
theorem Xo(d:0<=i)(e:i<(C8 s r l).length):AA (Eo s r l).bq (r.eh.ci.bq.length+i)=AA r.d5.ci.bq (AA (C8 s r l) i):=by
 obtain ⟨n,rfl⟩:=B! d;rw[show AA (Eo s r l).bq (r.eh.ci.bq.length+(n:Int))=_ from JJ,CZ d e]
theorem WB(d:0<=i)(e:i<(Ch s r l).length):AA (Eo s r l).ca (r.eh.ci.ca.length+i)=Ri r (A0 s r l) (AA (Ch s r l) i):=by
 obtain ⟨n,rfl⟩:=B! d;rw[show AA (Eo s r l).ca (r.eh.ci.ca.length+(n:Int))=_ from JJ,CZ d e]
theorem Zi(e:CW t s r=0)(d:0<=i)(j:i<r.eE.bq.length):AA r.d5.ci.bq (AA r.eE.bq i)=AA r.eh.ci.bq i/\0<=AA r.eE.bq i/\AA r.eE.bq i<r.d5.ci.bq.length:=by
 obtain ⟨_,ho,l1,_⟩:=FA e;obtain⟨f,_⟩:=NX e;obtain⟨o,p⟩:=ho.mor.node i d j;refine⟨?_,o⟩;rw[p];unfold CQ;rw[CZ d (by rw[f.kn,Az];omega),f.kn,Hy d U]
variable{v:Int}
theorem lM(e:CW t s r=0)(hv:v∈A0 s r l):AA (Eo s r l).bq (Ao (A0 s r l) v)=AA r.d5.ci.bq v:=by
 obtain ⟨_,ho,l1,_⟩:=FA e;by_cases d:v∈r.eE.bq
 .obtain⟨a,b,c,_⟩:=BH d;rw[show Ao (A0 s r l) v=Ao r.eE.bq v from Uw d,Zs a U,<-(Zi e a b).1,c]
 .have f:v∈C8 s r l:=(w?.1 hv).resolve_left d;obtain⟨a,b,c,_⟩:=BH f;rw[show Ao (A0 s r l) v=r.eE.bq.length+Ao (C8 s r l) v from QZ d f,l1,Xo a b,c]
variable{w:Int}
theorem lL(e:CW t s r=0)(f:w∉r.eE.ca)(d:w∈Ch s r l):AA (Eo s r l).ca (Ao (Eg s r l) w)=Ri r (A0 s r l) w:=by
 obtain ⟨_,ho,_,l2⟩:=FA e;obtain⟨a,b,c,_⟩:=BH d;rw[show Ao (Eg s r l) w=r.eE.ca.length+Ao (Ch s r l) w from QZ f d,l2,WB a b,c]
def Mw(s:A5)(r:ec)(l:Fp)(g:ci)(y:cE):ci:=⟨g.bq++(AX (A0 s r l) r.d5.ci.bq.length).map (AA r.d5.ci.bq),g.ca++(AX (Eg s r l) r.d5.ci.ca.length).map (PA r (A0 s r l) y.bq g.bq.length)⟩
def TU(s:A5)(r:ec)(l:Fp)(g:ci)(iso y:cE):cE:=⟨Om iso.bq r.eE.bq (A0 s r l) y.bq g.bq.length r.d5.ci.bq.length,Om iso.ca r.eE.ca (Eg s r l) y.ca g.ca.length r.d5.ci.ca.length⟩
variable{g:ci}{y:cE}
theorem nD(j:CW t s r=0)(o:EY (Eo s r l) g y)(p:0<=v)(q:v<r.d5.ci.bq.length):AA (Mw s r l g y).bq (Eu (A0 s r l) y.bq g.bq.length v)=AA r.d5.ci.bq v:=by
 obtain ⟨_,ho,l1,_⟩:=FA j;have u:(Eo s r l).bq.length=(A0 s r l).length:=by simp[Eo,A0,l1]
 by_cases hv:v∈A0 s r l
 .obtain⟨a,b,c,_⟩:=BH hv;obtain⟨d,f⟩:=o.node _ a U;have e:Eu (A0 s r l) y.bq g.bq.length v=AA y.bq (Ao (A0 s r l) v):=v5
  rw [e,show AA (Mw s r l g y).bq (AA y.bq (Ao (A0 s r l) v))=_ from DV d.1 d.2,f,lM j hv]
 .obtain⟨d,f⟩:=LU p q hv;rw[RL hv,show AA (Mw s r l g y).bq ((g.bq.length:Int)+((AX (A0 s r l) v).length:Int))=_ from JJ,CZ U f,d]
theorem m9(j:CW t s r=0)(he:iR s r l)(q:EY (Eo s r l) g y)(w0:0<=w)(u:w<r.d5.ci.ca.length)(o:w∉r.eE.ca):
  AA (Mw s r l g y).ca (Eu (Eg s r l) y.ca g.ca.length w)=PA r (A0 s r l) y.bq g.bq.length w:=by
 obtain ⟨_,ho,_,l2⟩:=FA j;have C:(Eo s r l).ca.length=(Eg s r l).length:=by simp[Eo,Eg,l2]
 by_cases hv:w∈Eg s r l
 .have p:w∈Ch s r l:=(w?.1 hv).resolve_left o;obtain⟨a,b,c,_⟩:=BH hv;obtain⟨d,f⟩:=q.edge _ a U;obtain⟨z,A⟩:=he _ p;have e:Eu (Eg s r l) y.ca g.ca.length w=AA y.ca (Ao (Eg s r l) w):=v5
  rw [e,show AA (Mw s r l g y).ca (AA y.ca (Ao (Eg s r l) w))=_ from DV d.1 d.2,f,lL j o p];unfold Ri PA Eu;rw[QQ (Aq.2 z),QQ (Aq.2 A)]
 .obtain⟨d,f⟩:=LU w0 u hv;rw[RL hv,show AA (Mw s r l g y).ca ((g.ca.length:Int)+((AX (Eg s r l) w).length:Int))=_ from JJ,CZ U f,d]
end
end Go.Sf.Sc
namespace Go.Sf.Sc
open Go Go.Sf
section
variable{t:AC}{s:A5}{r:ec}{l:Fp}{g B:ci}{iso y M:cE}
variable{α:Type}{i:Int}
theorem Q9[Inhabited α]{a b:List α}(d:(a.length:Int)<=i):AA (a++b) i=AA b (i-a.length):=by
 obtain ⟨n,hn⟩:=B! (show 0<=i-a.length by omega);rw[hn,show i=(a.length:Int)+(n:Int)by omega];exact JJ
variable{v:Int}
theorem lG(f:EY B g iso)(o:∀j:Int,0<=j->j<r.eE.bq.length->(0<=AA M.bq j/\AA M.bq j<B.bq.length)/\AA iso.bq (AA M.bq j)=AA y.bq j)
  (p:0<=v)(q:v<r.d5.ci.bq.length):AA (TU s r l g iso y).bq (Eu r.eE.bq M.bq B.bq.length v)=Eu (A0 s r l) y.bq g.bq.length v:=by
 have u:=f.nl;have e0:(TU s r l g iso y).bq=iso.bq++(AX r.eE.bq r.d5.ci.bq.length).map (Eu (A0 s r l) y.bq g.bq.length):=rfl;rw[e0,Ow];by_cases hv:v∈r.eE.bq
 .obtain⟨a,b,c,_⟩:=BH hv;obtain⟨d,e⟩:=o _ a b;rw[QQ hv,DV d.1 U,e];have hT:v∈A0 s r l:=z? _ hv;rw[Ow,QQ hT,show Ao (A0 s r l) v=_ from Uw hv]
 .obtain⟨d,e⟩:=LU p q hv;rw[aE hv,<-u,JJ,CZ U e,d]
theorem m8(z:CW t s r=0)(A:iR s r l)(N:BW B)(e:EY B g iso)(F:EY (Eo s r l) g y)(G:∀j:Int,0<=j->j<r.eE.bq.length->(0<=AA M.bq j/\AA M.bq j<B.bq.length)/\AA iso.bq (AA M.bq j)=AA y.bq j)
  (hn:WS iso.bq r.eE.bq (A0 s r l) y.bq g.bq.length)(he:WS iso.ca r.eE.ca (Eg s r l) y.ca g.ca.length):EY (Ce r B M.bq) (Mw s r l g y) (TU s r l g iso y):=by
 obtain ⟨_,ho,l1,l2⟩:=FA z;have H:=e.nl;have I:=e.el;have p:(TU s r l g iso y).bq=iso.bq++(AX r.eE.bq r.d5.ci.bq.length).map (Eu (A0 s r l) y.bq g.bq.length):=rfl;have D:(TU s r l g iso y).ca=iso.ca++(AX r.eE.ca r.d5.ci.ca.length).map (Eu (Eg s r l) y.ca g.ca.length):=rfl;have K:(Mw s r l g y).bq=g.bq++(AX (A0 s r l) r.d5.ci.bq.length).map (AA r.d5.ci.bq):=rfl;have L:(Mw s r l g y).ca=g.ca++(AX (Eg s r l) r.d5.ci.ca.length).map (PA r (A0 s r l) y.bq g.bq.length):=rfl;have q:(Ce r B M.bq).bq=B.bq++(AX r.eE.bq r.d5.ci.bq.length).map (AA r.d5.ci.bq):=rfl;have u:(Ce r B M.bq).ca=B.ca++(AX r.eE.ca r.d5.ci.ca.length).map (PA r r.eE.bq M.bq B.bq.length):=rfl;have nl:(TU s r l g iso y).bq.length=(Ce r B M.bq).bq.length:=by rw[p,q,a5,a5,az,az,H]
 have el:(TU s r l g iso y).ca.length=(Ce r B M.bq).ca.length:=by rw[D,u,a5,a5,az,az,I]
 have O:(Mw s r l g y).bq.length=g.bq.length+(AX (A0 s r l) r.d5.ci.bq.length).length:=by rw[K,a5,az]
 have ge:(Mw s r l g y).ca.length=g.ca.length+(AX (Eg s r l) r.d5.ci.ca.length).length:=by rw[L,a5,az]
 refine ⟨nl,el,λk d C=>⟨?_,?_⟩,λk d C=>⟨?_,?_⟩,cK hn e.nnd _,cK he e.Aa6 _⟩
 .have:=Yh hn (AG (l:=(TU s r l g iso y).bq) d U);omega
 .by_cases h:k<B.bq.length
  .have f:=e.node k d h;rw[p,DV d U,K,DV f.1.1 f.1.2,f.2,q,DV d h]
  .have o:k-B.bq.length<(AX r.eE.bq r.d5.ci.bq.length).length:=by
    rw [q,a5,az]at C;omega
   have hv:=Db (AG (l:=AX r.eE.bq r.d5.ci.bq.length) (i:=k-B.bq.length) U o);rw[p,Q9 U,H,CZ U o,nD z F hv.1 hv.2,q,Q9 U,CZ U o]
 .have:=Yh he (AG (l:=(TU s r l g iso y).ca) d U);omega
 .by_cases h:k<B.ca.length
  .have f:=e.edge k d h;have hf:=(N.fit _ (AG d h)).2;rw[D,DV d U,L,DV f.1.1 f.1.2,f.2,u,DV d h,p,DV hf.1.1 U,DV hf.2.1 U]
  .have o:k-B.ca.length<(AX r.eE.ca r.d5.ci.ca.length).length:=by
    rw [u,a5,az]at C;omega
   obtain ⟨hv,E⟩:=MA.1 (AG (l:=AX r.eE.ca r.d5.ci.ca.length) (i:=k-B.ca.length) U o);have hf:=(ho.right.fit _ (AG hv.1 hv.2)).2;rw[D,Q9 U,I,CZ U o,m9 z A F hv.1 hv.2 E,u,Q9 U,CZ U o];unfold PA;dsimp only;rw[lG e G hf.1.1 hf.1.2,lG e G hf.2.1 hf.2.2]
theorem mf{p g:ci}{m:cE}(h:JC t p g m=0)(i:Int):Dm p g m i=none\/¬(0<=i/\i<m.ca.length):=by
 unfold JC at h;split at h
 .cases h
 have hn:fst (Gu t p g m) 0 m.bq.length=none:=by
  grind [DG,Gu]
 rw [hn]at h;have he:=Pj (λi=>by
  grind [Dm]) h
 by_cases k:0<=i/\i<m.ca.length
 .exact .inl (he i k.1 k.2)
 .exact .inr k
theorem nf(A:CW t s r=0){g:ci}{M:cE}(h:EN t r.eh.ci g M r.ff=0):EY r.eh.ci g M:=by
 obtain ⟨C,D,_⟩:=NX A;obtain⟨u,z,ok⟩:=Rc h;obtain⟨hv,_,_,_,E⟩:=LF u;have hi:G7 M=X:=by
  cases e:G7 M with
  |true=>rfl|false=>
   unfold EN at h;rw[aE o?,aE (by simp[z]),C.inj,e]at h;cases h
 unfold G7 at hi;rw[gN]at hi;have nl:=ok.pr;have el:=ok.sr;refine⟨nl,el,λi d o=>?_,λi d o=>?_,Hg.1 hi.1,Hg.1 hi.2⟩
 .obtain⟨f,j⟩:=ok.node i d U;have q:=E _ (AG f.1 f.2);exact⟨f,sL (CY hv).par D q.1 q.2 (AG d o) j⟩
 .have he:=(mf z i).resolve_right (λk=>k ⟨d,U⟩);unfold Dm at he;split at he
  .cases he
  split at he
  .cases he
  split at he
  .cases he
  rename_i f j p;refine⟨U,?_⟩;rcases hE:AA g.ca (AA M.ca i)with⟨a,b,c⟩;rw[hE]at j p;dsimp only at j p;congr 1<;>omega
theorem RM{J M:Fp}{d:Nat}(hv:v∉J):Eu J M d v=(d:Int)+((AX J v).length:Int):=by rw[Ow,aE hv]
theorem l6(f:CW t s r=0)(j:EY r.eh.ci B M)(o:0<=v)(p:v<r.d5.ci.bq.length):(0<=Eu r.eE.bq M.bq B.bq.length v/\Eu r.eE.bq M.bq B.bq.length v<(Ce r B M.bq).bq.length)/\AA (Ce r B M.bq).bq (Eu r.eE.bq M.bq B.bq.length v)=AA r.d5.ci.bq v:=by
 obtain ⟨_,ho,l1,_⟩:=FA f;have q:(Ce r B M.bq).bq.length=B.bq.length+(AX r.eE.bq r.d5.ci.bq.length).length:=by simp[Ce]
 rw [Ow,q];by_cases hv:v∈r.eE.bq
 .obtain⟨a,b,c,_⟩:=BH hv;obtain⟨d,e⟩:=j.node _ a U;rw[QQ hv];refine⟨U,?_⟩;rw[show AA (Ce r B M.bq).bq _=_ from DV d.1 d.2,e,<-(Zi f a b).1,c]
 .obtain⟨d,e⟩:=LU o p hv;rw[aE hv];refine⟨U,?_⟩;rw[show AA (Ce r B M.bq).bq _=_ from JJ,CZ U e,d]
variable{w:Int}
theorem l5(w0:0<=w)(e:w<r.d5.ci.ca.length)(d:w∉r.eE.ca):(0<=Eu r.eE.ca M.ca B.ca.length w/\Eu r.eE.ca M.ca B.ca.length w<(Ce r B M.bq).ca.length)/\AA (Ce r B M.bq).ca (Eu r.eE.ca M.ca B.ca.length w)=PA r r.eE.bq M.bq B.bq.length w:=by
 have f:(Ce r B M.bq).ca.length=B.ca.length+(AX r.eE.ca r.d5.ci.ca.length).length:=by simp[Ce]
 obtain ⟨j,o⟩:=LU w0 e d;rw[RM d,f];refine⟨U,?_⟩;rw[show AA (Ce r B M.bq).ca _=_ from JJ,CZ U o,j]
end
variable{α:Type}{n:Nat}
theorem Ks{f:α->TV}{l:List α}(h:l.length<=1000)(hf:∀x,(f x).Sm):(eL n f l).Sm:=by
 refine ⟨s_,Ko.2 λt d=>?_⟩;obtain⟨x,_,rfl⟩:=x_.1 d;exact hf x
theorem Ts(x:Int):(eI x).Sm:=trivial
theorem pU(x:Bu):(CD x).Sm:=by simp[CD,TV.Sm,TV.Sms,eI]
theorem pV(x:Cz):(El x).Sm:=by simp[El,TV.Sm,TV.Sms,eI]
theorem pW(x:Test):(FQ x).Sm:=by simp[FQ,TV.Sm,TV.Sms,eI]
def iW(g:ci):Prop:=g.bq.length<=1000/\g.ca.length<=1000
theorem rt{c:c9}(j:∀k∈c.ej,(AI k).Sm)(q:c.ej.length<=1000)(d:c.Map.bq.length<=1000/\c.Map.ca.length<=1000)(e:iW c.d4.ci)(f:c.d4.ed.length<=1000/\c.d4.f0.length<=1000):(AI c).Sm:=by
 refine ⟨trivial,?_,Ks d.1 Ts,Ks d.2 Ts,Ks e.1 Ts,Ks e.2 pU,Ks f.1 pV,trivial,Ks f.2 pW,trivial⟩;unfold D1;rw[Lr];refine⟨s_,Ko.2 λt o=>?_⟩;obtain⟨x,p,rfl⟩:=x_.1 o;exact j x p
theorem tT{r:ec}(F:r.gi.size<=1000)(d:iW r.eh.ci)(e:r.eh.ed.length<=1000/\r.eh.f0.length<=1000)(f:iW r.d5.ci)(j:r.d5.ed.length<=1000/\r.d5.f0.length<=1000)(o:r.im.bq.length<=1000/\r.im.ca.length<=1000)(p:r.eE.bq.length<=1000/\r.eE.ca.length<=1000)(q:(AI r.c9).Sm):(CE r).Sm:=by
 obtain ⟨u,z,c3,c4,A,c6,C,D,E,_⟩:=q;exact⟨by show r.gi.size<=reachBytes;unfold reachBytes;omega,Ks d.1 Ts,Ks d.2 pU,Ks e.1 pV,trivial,Ks e.2 pW,Ks f.1 Ts,Ks f.2 pU,Ks j.1 pV,trivial,Ks j.2 pW,Ks o.1 Ts,Ks o.2 Ts,Ks p.1 Ts,Ks p.2 Ts,trivial,u,z,c3,c4,A,c6,C,D,E,trivial⟩
theorem r6{t:AC}(hf:Ay t):(AO t).Sm:=by
 refine ⟨⟨by rw[az];have:=hf.d6;unfold reachBytes;omega,Ko.2 λx d=>?_⟩,⟨by rw[az];have:=hf.d7;unfold reachBytes;omega,Ko.2 λx d=>?_⟩,trivial⟩
 .obtain⟨n,hn,rfl⟩:=x_.1 d;have u:=hf.name n hn;have A:=hf.Abq n hn;refine⟨by show n.gi.size<=reachBytes;unfold reachBytes;omega,trivial,trivial,⟨s_,Ko.2 λy j=>?_⟩,trivial⟩;obtain⟨a,p,rfl⟩:=x_.1 j;have f:=hf.each n hn a p;refine⟨by show a.gi.size<=reachBytes;have:=f.name;unfold reachBytes;omega,trivial,trivial,⟨by rw[az];have:=f.names;unfold reachBytes;omega,Ko.2 λz o=>?_⟩,trivial⟩;obtain⟨s,q,rfl⟩:=x_.1 o;show s.size<=reachBytes;have:=f.each s q;unfold reachBytes;omega
 .obtain⟨e,he,rfl⟩:=x_.1 d;have:=hf.AbA e he;exact⟨by show e.gi.size<=reachBytes;unfold reachBytes;omega,trivial,trivial,trivial,trivial,trivial,trivial,trivial⟩
structure OkG(t:AC)(g:ci):Prop where
 ok:BW g
 kind:∀n∈g.bq,0<=n/\n<t.bq.length
 et:∀e∈g.ca,e.fa<t.ca.length
theorem qe:(AI (Nl 1)).Sm:=rt (λk d=>by cases d) a_ a_ (by unfold iW;decide) a_
end Go.Sf.Sc
