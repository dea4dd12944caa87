/- Plain lemmas: what the functions of the program and of the reference compute. -/
import Derived.Test.YthcncnllajfkfaaGreatP96
set_option linter.all false
set_option maxRecDepth 100000
open Option renaming some->Y,none->W
open Bool renaming true->X,false->T
open List renaming mem_cons->v1,mem_cons_of_mem->v5,any_eq_true->v6,any_eq_false->v_,mem_append->v!,mem_map->v?,getElem?_modify->w_,getElem?_eq_getElem->w!,length_set->w?,getD_eq_getElem?_getD->x_,zip_map'->x!,map_id->x?,replicate->y_,take_length->y!,countP_cons->y?,take_of_length_le->z_,take_take->z!,mem_singleton->z?,flatten_append->A_,take_zero->A',length_replicate->A!,map_congr_left->A?,all_cons->B_,flatMap_cons->B',map->B!,length_filter_le->B?
open Bool renaming not_eq_true'->C_,or_eq_false_iff->C',eq_false_iff->C!,not_eq_true->C?,or_eq_true->D_,true_and->D',not_eq_false->D!
open Classical renaming not_not->D?,byContradiction->E_
open Int renaming eq_ofNat_of_zero_le->E',toNat_natCast->E!,lt_or_le->E?
namespace Go.Sf.Sc
open Go Go.Sf
variable{k:Int}
theorem b7{t:AC}(f:Ff t k){c:Int}:∀(n m:Nat)(a b:Int),a<k->a<n->b<m->b∈Kz t n a->c∈Kz t m b->c∈Kz t n a
 |0,_,_,_,_,_,_,hb,_=>by simp[Kz]at hb|n+1,m,a,b,ha,w,v,hb,u=>by
  rw [Kz]at hb|-;split at hb
  .cases hb
  .rename_i h0;rw[ac h0];have z:=f a U ha;rcases v1.1 hb with rfl|hb
   .have e:=p6 f m (n+1) b ha v w;rw[e,Kz,ac h0]at u;exact u
   .exact v5 _ (b7 f n m (par t a) b U U v hb u)
theorem bB{t:AC}(h:F6 t){a b c:Int}(ha:a<t.dl.length)(f:HP t a b=X)(u:HP t b c=X):HP t a c=X:=by
 unfold HP at f u|-;rw[v6]at f u|-;obtain⟨x,w,e⟩:=f;obtain⟨y,z,v⟩:=u;rw[sA]at e v;subst e;subst v;exact⟨c,b7 h.par _ _ a b ha U U w z,V⟩
theorem qk{t:AC}(h:F6 t){e f g v w:Int}(hf:0<=v/\v<t.dl.length)(z:0<=w/\w<t.dl.length)(A:HP t v f=X)(B:HP t w g=X)(u:OK t e f g=X):OK t e v w=X:=by
 unfold OK at u|-;simp only[ne,NP]at u|-;exact⟨⟨⟨u.1.1.1,hf,z⟩,u.1.2⟩,bB h hf.2 A u.2.1,bB h z.2 B u.2.2⟩
end Go.Sf.Sc
namespace Go.Sf.Sc
open Go Go.Sf
variable{r:eh}
theorem iG{t:AC}(h:ES t r=0):(∀x∈FE r,(AA t.dl (AA r.ec.dr.dl x)).up=T)/\∀x∈LJ r,J9 t r.ec.dr x=X:=by
 have e:XI t r.ec.dr (FE r) (LJ r)=X:=by grind[ES]
 unfold XI at e;rw[ne,C_,C_,v_,v_]at e;exact⟨λx f=>by simpa using e.1 x f,λx f=>by simpa using e.2 x f⟩
abbrev gS(t:AC)(r:eh)(h:AF)(m:AP):AF:=C3 t r (CY h (dS r h m)) (cS r h m)
variable{h:AF}
theorem IZ.eg{t:AC}{m:AP}(s:IZ t r h m):∀e∈(gS t r h m).dr.d3,((0<=e.hV/\e.hV<(gS t r h m).dr.dl.length)/\0<=e.To/\e.To<(gS t r h m).dr.dl.length)/\OK t e.ia (AA (gS t r h m).dr.dl e.hV) (AA (gS t r h m).dr.dl e.To)=X:=by
 intro e he;have el:(gS t r h m).dr.dl=(dS r h m).dl.map (AA h.dr.dl)++(FE r).map (AA r.ec.dr.dl):=rfl;have he:e∈(dS r h m).d3.map (λx=>XJ (Gz h (dS r h m)).dl (AA h.dr.d3 x))++(LJ r).map (λk=>XJ (cS r h m).dl (AA r.ec.dr.d3 k)):=he;rcases v!.1 he with he|he
 .obtain⟨x,D,rfl⟩:=v?.1 he;have C:=Vd (gL s.part).2;have u:=C.eg.1 x D;have f:=C.ends x D;have hf:=(s.hh.g.fit _ (AI u.1 u.2)).2;have I:=(UF s.he).2 x u.1 u.2;have fit:J9 t h.dr x=X:=by
   unfold Lt at I
   grind
  have at_:∀y,y∈(dS r h m).dl->0<=y->y<h.dr.dl.length->(0<=AA (Gz h (dS r h m)).dl y/\AA (Gz h (dS r h m)).dl y<(gS t r h m).dr.dl.length)/\AA (gS t r h m).dr.dl (AA (Gz h (dS r h m)).dl y)=AA h.dr.dl y:=λy F G H=>by
   have hi:=JR F;rw[show AA (Gz h (dS r h m)).dl y=Di (dS r h m).dl y from Uk G H,el,az,c9];refine⟨⟨hi.1,by have:=hi.2.1;push_cast;omega⟩,?_⟩;rw[nW hi.1 (by rw[c9];exact hi.2.1),D8 hi.1 hi.2.1,hi.2.2.1]
  obtain ⟨a1,A⟩:=at_ _ f.1 hf.1.1 hf.1.2;obtain⟨z,B⟩:=at_ _ f.2 hf.2.1 hf.2.2;refine⟨⟨a1,z⟩,?_⟩;simp only[XJ];rw[A,B];exact fit
 .obtain⟨k,E,rfl⟩:=v?.1 he;have v:0<=k/\k<r.ec.dr.d3.length:=Gu E;have hf:=(s.ro.right.fit _ (AI v.1 v.2)).2;obtain⟨a1,J,A⟩:=s.Abv hf.1.1 hf.1.2;obtain⟨z,K,B⟩:=s.Abv hf.2.1 hf.2.2;have w:=s.put.kind;refine⟨⟨a1,z⟩,?_⟩;exact qk (C6 s.hv) ⟨(w _ (AI a1.1 a1.2)).1,J⟩ ⟨(w _ (AI z.1 z.2)).1,K⟩ A B ((iG s.re).2 k E)
end Go.Sf.Sc
namespace Go.Sf.Sc
open Go Go.Sf
def lO(t:AC)(k:Int)(v:Fp):Prop:=v.length=(BL t k).length/\∀j:Int,0<=j->j<v.length->(AA (BL t k) j).Low<=AA v j/\AA v j<=(AA (BL t k) j).Aab
def Xo(t:AC)(g:dr)(κ:List Fp):Prop:=κ.length=g.dl.length/\∀i:Int,0<=i->i<g.dl.length->lO t (AA g.dl i) (AA κ i)
variable{x:AF}
theorem oC{t:AC}{κ:List Fp}(h:Xo t x.dr κ){p:(Int×Int)×Int}(z:Nt t x p=T):Xo t x.dr (Cl κ p):=by
 unfold Cl;split
 .rename_i h0;refine⟨by rw[List.length_modify];exact h.1,λi A i1=>?_⟩;have hi:=h.2 i A i1;by_cases e:i=p.1.1
  .have f:AA (κ.modify p.1.1.toNat λr=>r.set p.1.2.toNat p.2) i=(AA κ i).set p.1.2.toNat p.2:=by
    have:=h.1;subst e;simp[AA,w_,w! (show p.1.1.toNat<κ.length by omega)]
   rw [f];refine⟨by rw[w?];exact hi.1,λj v w=>?_⟩;rw[w?]at w;by_cases u:j=p.1.2
   .rw[show AA ((AA κ i).set p.1.2.toNat p.2) j=p.2 by rw[u];exact jV p.2 h0.2 U,u,e];simp[Nt]at z;omega
   .rw[show AA ((AA κ i).set p.1.2.toNat p.2) j=AA (AA κ i) j from jW p.2 h0.2 v u];exact hi.2 j v w
  .have f:AA (κ.modify p.1.1.toNat λr=>r.set p.1.2.toNat p.2) i=AA κ i:=by
    simp [AA,x_,w_,show¬p.1.1.toNat=i.toNat by omega]
   rw [f];exact hi
 .exact h
theorem ax{t:AC}:∀(L:Bq){κ:List Fp},Xo t x.dr κ->L.any (Nt t x)=T->Xo t x.dr (L.foldl Cl κ)
 |[],_,h,_=>h|p::L,κ,h,e=>by
  rw [List.any_cons,C']at e;exact ax L (oC h e.1) e.2
variable{r:eh}{h:AF}
theorem IZ.ea{t:AC}{m:AP}(s:IZ t r h m):(∀n∈(gS t r h m).dr.dl,(AA t.dl n).up=T)/\∀v n,(n,v)∈(gS t r h m).dr.dl.zip (gS t r h m).eb->lO t n v:=by
 have F:=C6 s.hv;have el:(gS t r h m).dr.dl=(dS r h m).dl.map (AA h.dr.dl)++(FE r).map (AA r.ec.dr.dl):=rfl;have ev:(gS t r h m).eb=(dS r h m).dl.map (AA h.eb)++(FE r).map (λk=>VQ t (AA r.ec.dr.dl k)):=rfl;have old:∀x∈(dS r h m).dl,(AA t.dl (AA h.dr.dl x)).up=T/\lO t (AA h.dr.dl x) (AA h.eb x):=λx f=>by
  have f:=s.rem.ea.1 x f;have u:=(UF s.he).1 x f.1 f.2;unfold IH at u;split at u
  .cases u
  split at u
  .cases u
  split at u
  .cases u
  split at u
  .cases u
  rename_i a1 G H I;refine⟨by simpa using G,D?.1 H,λj C D=>?_⟩;have:=B6.1 (by simpa using I) j C U;simp[SL]at this;omega
 have new:∀k∈FE r,lO t (AA r.ec.dr.dl k) (VQ t (AA r.ec.dr.dl k)):=λk E=>by
  have A:0<=k/\k<r.ec.dr.dl.length:=Gu E;have B:=(IA s.ro.right s.ro.Aa5).1 _ (AI A.1 A.2);refine⟨by simp[VQ],λj C D=>?_⟩;simp only[VQ,c9]at D|-;have:=aH s.hf F B.1 B.2 _ (AI C D);rw[show AA ((BL t (AA r.ec.dr.dl k)).map λx=>x.Low) j=(AA (BL t (AA r.ec.dr.dl k)) j).Low by grind[AA,w!]];omega
 refine ⟨λn z=>?_,λv n w=>?_⟩
 .rw[el]at z;rcases v!.1 z with z|z
  .obtain⟨x,f,rfl⟩:=v?.1 z;exact(old x f).1
  .obtain⟨k,E,rfl⟩:=v?.1 z;exact(iG s.re).1 k E
 .rw[el,ev,List.zip_append V]at w;rcases v!.1 w with w|w
  .rw[x!,v?]at w;obtain⟨x,f,e⟩:=w;cases e;exact(old x f).2
  .rw[x!,v?]at w;obtain⟨x,f,e⟩:=w;cases e;exact new x f
end Go.Sf.Sc
namespace Go.Sf.Sc
open Go Go.Sf
variable{α β:Type}{i:Int}
theorem zZ[Inhabited α][Inhabited β]{a:List α}{b:List β}(e:0<=i)(f:i<a.length)(u:i<b.length):(AA a i,AA b i)∈a.zip b:=by
 refine List.mem_of_getElem? (i:=i.toNat) ?_;rw[List.getElem?_zip_eq_some]
 grind [AA,w!]
variable{r:eh}{h:AF}
theorem WV{t:AC}{m:AP}(s:Qs t r h m):ER t (PB t r h m)=(-1,0):=by
 have f:=s.f;have hv:=f.hv;have w:=C6 hv;have put:=f.put;have ed:=f.eg;obtain⟨E,F⟩:=f.ea;have J:=w.ea;have K:=w.eg;have u:Xo t (gS t r h m).dr (gS t r h m).eb:=⟨put.AbM,λi v i1=>F _ _ (zZ v i1 (by rw[put.AbM];exact i1))⟩;have good:=ax (x:=gS t r h m) _ u (gN s.put).2;have z:∀e∈(gS t r h m).dr.d3,0<=e.ia/\e.ia<t.d3.length:=λe he=>by
  have:=(ed e he).2;unfold OK at this;simp only[ne,sA]at this;exact this.1.2
 have go:D6 (gS t r h m).dr:=⟨s.few.1,s.few.2,λn C=>by have:=put.kind n C;omega,λe he=>⟨by have:=z e he;omega,(ed e he).1⟩⟩;have D:(PB t r h m).dr=(gS t r h m).dr:=rfl;have ev:(PB t r h m).eb=(CZ r (cS r h m) m.ey).foldl Cl (gS t r h m).eb:=rfl;unfold ER;rw[ac l!,D,ev,ac (by simp[YL go]),ac (by simpa using good.1),Bf.2]
 .dsimp only;rw[Bf.2]
  .rfl
  intro i v i1;have A:=AI v i1;have B:Lt t (gS t r h m).dr i=0:=by
   unfold Lt J9;rw[ac (by have:=z _ A;omega),(ed _ A).2];rfl
  rw [B];rfl
 .intro i v i1;have A:=AI v i1;obtain⟨G,H⟩:=good.2 i v i1;have B:IH t (AA (gS t r h m).dr.dl i) (AA ((CZ r (cS r h m) m.ey).foldl Cl (gS t r h m).eb) i)=0:=by
   unfold IH;rw[ac (by have:=put.kind _ A;omega),ac (by simp[E _ A]),ac (by simpa using G),ac];rw[Ee];rintro⟨j,I,M,e⟩;have:=H j I U;simp[SL]at e;omega
  rw [B];rfl
end Go.Sf.Sc
namespace Go.Sf.Sc
open Go Go.Sf
variable{h:AF}
theorem wC{t:AC}{rules:List eh}(v:G3 t rules h=0):(∀r∈rules,ES t r=0)/\(ER t h).2=0:=by
 have e:Du t rules=0/\(ER t h).2=0:=by grind[G3]
 refine ⟨λr hr=>?_,e.2⟩;obtain⟨i,u,i1,rfl⟩:=Bh hr;have f:(fst (λi=>nz (ES t (AA rules i))) 0 rules.length).getD 0=0:=by grind[Du]
 exact VG f i u i1
variable{r:eh}
theorem ud{t:AC}(hf:A0 t)(f:ES t r=0)(e:(ER t h).2=0):(GV t r h).2=0\/(GV t r h).2=3:=by
 have v:RW t r h=0:=by unfold RW;simp[f,e]
 have u:=(Uf f).1;have w:OP t r.fu h=0:=by unfold OP;simp[u,e]
 obtain ⟨hv,hh⟩:=Ou hf e;obtain⟨go,ty⟩:=oj u;have z:E5 t r.fu.dr h.dr=0:=by unfold E5;simp[hv,YL go,hh.ge,ty,hh.ty]
 unfold GV Lu MK
 grind
end Go.Sf.Sc
namespace Go.Sf.Sc
open Go Go.Sf
variable{α:Type}{i:Int}
theorem vE[Inhabited α]{a r:List α}{x:α}(e:0<=i)(h:(a.length:Int)=i):AA (a++x::r) i=x:=by
 obtain ⟨n,rfl⟩:=E' e;obtain rfl:a.length=n:=U
 simp [AA]
theorem rC{a r:List α}{x y:α}(e:0<=i)(h:(a.length:Int)=i):BR (a++x::r) i y=a++y::r:=by
 obtain ⟨n,rfl⟩:=E' e;obtain rfl:a.length=n:=U
 simp [BR]
theorem QA(l:Fp)(v:Int):slices_Contains_int l v=Y (hasB l v):=Mm l v
variable{n:Nat}
theorem Yl(h:n<=1000):Km n=Y (A3 n):=by
 unfold Km;rw[Oq (λ_=>X) id]
 .rw[bs,x?,List.filter_eq_self.2 λ_ _=>rfl]
 .intro i s e i1 f;rw[AV b_,bs,a6 rfl];rfl
variable{l:Fp}
theorem fw(u:l.length<=1000)(f:∀x∈l,0<=x):Jm l.length (A3 l.length) l=Y (l,X):=by
 unfold Jm DM;rw[a6 ⟨rfl,U,U⟩,bs,A4,EY (a:=0) (b:=(l.length:Int)) (λi=>l.take i.toNat++y_ (l.length-i.toNat) (-1)) (λ_=>W) U V,Bf.2 (λ_ _ _=>rfl)]
 .simp[iM,B1]
 intro i e i1 _;have v:=f _ (AI e i1);have ha:((l.take i.toNat).length:Int)=i:=f?
 have hr:y_ (l.length-i.toNat) (-1:Int)=-1::y_ (l.length-(i+1).toNat) (-1):=by
  rw [show l.length-i.toNat=(l.length-(i+1).toNat)+1 by omega];rfl
 rw [AD e (by rw[A4];exact i1),QN _ e i1,bs,AD e i1,bs,ac a_,ac a_,hr,AD e a_,bs,vE e ha,ac a!,bs,ac a!,bs,bs,rC e ha,BU e i1];simp[Y5]
def NG(g:dr)(a b:Int):Nat:=g.d3.countP λe=>decide (e.hV=a)&&decide (e.To=b)
theorem US{g:dr}(h:g.d3.length<=1000)(a b:Int):Jl g a b=Y (NG g a b:Int):=by
 unfold Jl NG;have u:∀l:List CN,(l.countP λe=>decide (e.hV=a)&&decide (e.To=b))<=l.length:=λl=>List.countP_le_length;rw[By (λi=>(((g.d3.take i.toNat).countP λe=>decide (e.hV=a)&&decide (e.To=b)):Int)) U V]
 .rw[bs,E!,y!]
 intro i f i1;have:=u (g.d3.take i.toNat);rw[bk]at this;rw[AD f i1,bs,BU f i1,List.countP_append];by_cases e:((decide ((AA g.d3 i).hV=a))&&(decide ((AA g.d3 i).To=b)))=X
 .rw[a6 e,A1 U U];simp[y?,e]
 .rw[ac e];simp[y?,e]
def j7(x y:AF)(mn:Fp)(l j:Int):Bool:=
 decide (NG x.dr j l=NG y.dr (AA mn j) (AA mn l))&&decide (NG x.dr l j=NG y.dr (AA mn l) (AA mn j))
def SF(x y:AF)(mn:Fp)(l:Int):Bool:=!kg (λj=>!j7 x y mn l j) 0 (l+1)
variable{j:Int}
theorem t5(e:0<=j)(h:j<i):AA (l.take i.toNat) j=AA l j:=by
 unfold AA;rw[x_,x_,List.getElem?_take,a6 U]
variable{x y:AF}
theorem bQ(f:x.dr.d3.length<=1000)(u:y.dr.d3.length<=1000){mn ns es me:Fp}(C:mn.length<=1000){l:Int}(v:0<=l)(l1:l<mn.length):
  G6 ⟨x,y,ns,es,⟨mn.take (l+1).toNat,me⟩⟩=Y (SF x y mn l):=by
 unfold G6;have B:((mn.take (l+1).toNat).length:Int)=l+1:=f?
 dsimp only;rw[B,show l+1-1=l by omega,A1 U U,Bk (λj=>!j7 x y mn l j) T]
 .unfold SF;cases kg (λj=>!j7 x y mn l j) 0 (l+1)<;>rfl
 intro j w A;rw[AD w U,bs,t5 w A,US f,bs,AD v U,bs,t5 v U,US u,bs,US f,bs,bs,US u,bs];unfold j7;by_cases e:NG x.dr j l=NG y.dr (AA mn j) (AA mn l)
 .rw[ac b?,bs];by_cases z:NG x.dr l j=NG y.dr (AA mn l) (AA mn j)
  .simp[e,z]
  .rw[a6 (by simp only[C_,decide_eq_false_iff_not];omega)];simp[e,z]
 .rw[a6 (by simp only[C_,decide_eq_false_iff_not];omega),bs,a6 rfl];simp[e]
def RI(x y:AF)(m:d4)(i:Int):Bool:=
 decide (AA y.dr.d3 (AA m.d3 i)=⟨(AA x.dr.d3 i).ia,AA m.dl (AA x.dr.d3 i).hV,AA m.dl (AA x.dr.d3 i).To⟩)&&!hasB (m.d3.take i.toNat) (AA m.d3 i)
def RK(x y:AF)(m:d4)(i:Int):Bool:=
 decide (AA y.dr.dl (AA m.dl i)=AA x.dr.dl i)&&!hasB (m.dl.take i.toNat) (AA m.dl i)&&decide (AA x.eb i=AA y.eb (AA m.dl i))&&SF x y m.dl i
structure Tl(x y:AF)(m:d4):Prop where
 nl:m.dl.length=x.dr.dl.length
 el:m.d3.length=x.dr.d3.length
 xn:x.dr.dl.length<=1000
 xe:x.dr.d3.length<=1000
 yn:y.dr.dl.length<=1000
 ye:y.dr.d3.length<=1000
 xv:x.eb.length=x.dr.dl.length
 yv:y.eb.length=y.dr.dl.length
 xends:∀e∈x.dr.d3,(0<=e.hV/\e.hV<x.dr.dl.length)/\0<=e.To/\e.To<x.dr.dl.length
 nin:∀k∈m.dl,0<=k/\k<y.dr.dl.length
 ein:∀k∈m.d3,0<=k/\k<y.dr.d3.length
abbrev Hi(x y:AF)(m:d4)(n e:Int):Bg:=⟨x,y,m.dl,m.d3,⟨m.dl.take n.toNat,m.d3.take e.toNat⟩⟩
variable{m:d4}
theorem ft(h:Tl x y m):∀(k:Nat)(i:Int),0<=i->i+k=x.dr.d3.length->∃b st,(∀n,k<n->Bz n (Hi x y m x.dr.dl.length i)=Y (b,st))/\(b=X↔∀j:Int,i<=j->j<x.dr.d3.length->RI x y m j=X)/\(b=X->st.m=m)/\(b=T->st=Hi x y m x.dr.dl.length i)
 |0,i,u,Q=>by
  have:=h.el;refine⟨X,Hi x y m x.dr.dl.length i,λn A=>?_,⟨λ_ j E H=>U,λ_=>rfl⟩,λ_=>?_,λh=>c_⟩
  .obtain⟨n,rfl⟩:∃q,n=q+1:=⟨n-1,U⟩;rw[Bz,a6 (by simp[Hi,bk];omega)]
  .have E:=h.nl;show d4.mk _ _=m;rw[z_ U,z_ U]
 |k+1,i,u,Q=>by
  have E:=h.nl;have H:=h.el;have S:=h.xe;have θ:=h.ye;obtain⟨b,st,K,M,N,O⟩:=ft h k (i+1) U U;have hi:=h.ein _ (AI u (l:=m.d3) U);have F:=h.xends _ (AI (l:=x.dr.d3) u U);have I:((m.d3.take i.toNat).length:Int)=i:=f?
  have key:∀n,k+1<n->Bz n (Hi x y m x.dr.dl.length i)=Y (if(RI x y m i&&b)=X then(X,st)else(T,Hi x y m x.dr.dl.length i)):=λn A=>by
   obtain ⟨n,rfl⟩:∃q,n=q+1:=⟨n-1,U⟩;rw[Bz];dsimp only;have nt:m.dl.take (x.dr.dl.length:Int).toNat=m.dl:=z_ U;rw[I,nt,ac a_,AD u U,bs,AD F.1.1 U,bs,AD F.2.1 U,bs,
    EY (a:=0) (b:=(y.dr.d3.length:Int)) (λ_=>Hi x y m x.dr.dl.length i) (λj=>if j=AA m.d3 i/\(RI x y m i&&b)=X then Y (X,st)else W) U (by rw[Hi,nt])]
   .by_cases e:(RI x y m i&&b)=X
    .have hf:fst (λj=>if j=AA m.d3 i/\(RI x y m i&&b)=X then Y (X,st)else W) 0 (y.dr.d3.length:Int)=Y (X,st):=by
      cases hf:fst (λj=>if j=AA m.d3 i/\(RI x y m i&&b)=X then Y (X,st)else W) 0 (y.dr.d3.length:Int)with
      |none=>
       rw [Bf]at hf;have:=hf _ hi.1 hi.2;simp[e]at this
      |some v=>
       obtain ⟨j,B,w,f,_⟩:=Cc hf;split at f
       .rw[<-f]
       .cases f
     rw [hf,a6 e];rfl
    .rw[ac e,Bf.2 (λj B w=>ac (λk=>e k.2))];rfl
   .intro j B w _;dsimp only[Hi];rw[nt,AD B w,bs,AD u U,bs,a6 (by simpa using hi.1),bs,bs];by_cases D:j=AA m.d3 i
    .subst D;by_cases z:AA y.dr.d3 (AA m.d3 i)=⟨(AA x.dr.d3 i).ia,AA m.dl (AA x.dr.d3 i).hV,AA m.dl (AA x.dr.d3 i).To⟩
     .rw[ac (by simp[z]),QA,bs,bs];by_cases f:hasB (m.d3.take i.toNat) (AA m.d3 i)=X
      .rw[a6 f,ac (by simp[RI,f])];rfl
      .have J:RI x y m i=X:=by simp[RI,z,f]
       rw [ac f,AV b_,bs,<-BU u U];have G:=K n U;rw[Hi,nt]at G;rw[G,bs,J];cases b with
       |true=>rw[a6 rfl,a6 ⟨rfl,rfl⟩];rfl|false=>
        obtain rfl:=O rfl;rw[ac V,Hi,H9 U f?,bs,nt,z!];rw[show min i.toNat (i+1).toNat=i.toNat by omega,ac V];rfl
     .rw[a6 (by simp[z]),bs,a6 rfl,ac (by simp[RI,z])];rfl
    .rw[a6 (by simp;exact .inl λk=>D k.symm),bs,a6 rfl,ac (λk=>D k.1)];rfl
  refine ⟨RI x y m i&&b,if(RI x y m i&&b)=X then st else Hi x y m x.dr.dl.length i,λn A=>?_,?_,λe=>?_,λe=>?_⟩
  .rw[key n A];by_cases e:(RI x y m i&&b)=X
   .rw[a6 e,a6 e,e]
   .rw[ac e,ac e,C!.2 e]
  .rw[ne,M];constructor
   .rintro⟨a1,P⟩ j w C;by_cases e:j=i
    .exact e▸a1
    .exact P j U C
   .exact λa=>⟨a i U U,λj w C=>a j U C⟩
  .rw[a6 e];rw[ne]at e;exact N e.2
  .rw[ac (by rw[e];decide)]
end Go.Sf.Sc
namespace Go.Sf.Sc
open Go Go.Sf
variable{x y:AF}{m:d4}
theorem vN(h:Tl x y m):∃b st,IC (Hi x y m x.dr.dl.length 0)=Y (b,st)/\(b=X↔∀j:Int,0<=j->j<x.dr.d3.length->RI x y m j=X)/\(b=X->st.m=m)/\(b=T->st=Hi x y m x.dr.dl.length 0):=by
 obtain ⟨b,st,e,f⟩:=ft h x.dr.d3.length 0 U U;exact⟨b,st,DV (x.dr.d3.length+1) λn u=>e n U,f⟩
def qy(x y:AF)(m:d4)(i:Int):Prop:=(∀j:Int,i<=j->j<x.dr.dl.length->RK x y m j=X)/\∀j:Int,0<=j->j<x.dr.d3.length->RI x y m j=X
theorem gD(h:Tl x y m):∀(k:Nat)(i:Int),0<=i->i+k=x.dr.dl.length->∃b st,(∀n,k<n->B0 n (Hi x y m i 0)=Y (b,st))/\(b=X↔qy x y m i)/\(b=X->st.m=m)/\(b=T->st=Hi x y m i 0)
 |0,i,u,κ=>by
  obtain ⟨b,st,e,G,H,I⟩:=vN h;obtain rfl:i=x.dr.dl.length:=U
  refine ⟨b,st,λn C=>?_,?_,H,I⟩
  .obtain⟨n,rfl⟩:∃q,n=q+1:=⟨n-1,U⟩;have J:=h.nl;rw[B0,a6 (by simp[Hi,bk];omega),e,bs]
  .rw[G];exact⟨λa=>⟨λj J M=>U,a⟩,λa=>a.2⟩
 |k+1,i,u,κ=>by
  have J:=h.nl;have M:=h.el;have N:=h.xe;have O:=h.ye;have η:=h.xn;have ζ:=h.yn;have δ:=h.xv;have Z:=h.yv;obtain⟨b,st,G,H,I,S⟩:=gD h k (i+1) U U;have hi:=h.nin _ (AI u (l:=m.dl) U);have P:((m.dl.take i.toNat).length:Int)=i:=f?
  have key:∀n,k+1<n->B0 n (Hi x y m i 0)=Y (if(RK x y m i&&b)=X then(X,st)else(T,Hi x y m i 0)):=λn C=>by
   obtain ⟨n,rfl⟩:∃q,n=q+1:=⟨n-1,U⟩;rw[B0];dsimp only;rw[P,ac a_,EY (a:=0) (b:=(y.dr.dl.length:Int)) (λ_=>Hi x y m i 0) (λj=>if j=AA m.dl i/\(RK x y m i&&b)=X then Y (X,st)else W) U rfl]
   .by_cases e:(RK x y m i&&b)=X
    .have hf:fst (λj=>if j=AA m.dl i/\(RK x y m i&&b)=X then Y (X,st)else W) 0 (y.dr.dl.length:Int)=Y (X,st):=by
      cases hf:fst (λj=>if j=AA m.dl i/\(RK x y m i&&b)=X then Y (X,st)else W) 0 (y.dr.dl.length:Int)with
      |none=>
       rw [Bf]at hf;have:=hf _ hi.1 hi.2;simp[e]at this
      |some v=>
       obtain ⟨j,D,w,f,_⟩:=Cc hf;split at f
       .rw[<-f]
       .cases f
     rw [hf,a6 e];rfl
    .rw[ac e,Bf.2 (λj D w=>ac (λk=>e k.2))];rfl
   .intro j D w _;dsimp only[Hi];rw[AD D w,bs,AD u U,bs,a6 (by simpa using hi.1),bs,bs];by_cases F:j=AA m.dl i
    .subst F;rw[ac V,AD u U,bs,bs];by_cases z:AA y.dr.dl (AA m.dl i)=AA x.dr.dl i
     .rw[ac (by simp[z]),QA,bs,bs];by_cases f:hasB (m.dl.take i.toNat) (AA m.dl i)=X
      .rw[a6 f,bs,a6 rfl,ac (by simp[RK,f])];rfl
      .rw[ac f,AD u U,bs,AD hi.1 U,bs,Kb,bs,bs];by_cases A:AA x.eb i=AA y.eb (AA m.dl i)
       .rw[ac (by simp[A]),AV b_,bs,<-BU u U,bQ N O U u U,bs];by_cases B:SF x y m.dl i=X
        .have Q:RK x y m i=X:=by simp[RK,z,f,A,B]
         rw [a6 B];have K:=G n U;rw[Hi]at K;rw[K,bs,Q];cases b with
         |true=>rw[a6 rfl,a6 ⟨rfl,rfl⟩];rfl|false=>
          obtain rfl:=S rfl;rw[ac V,Hi,H9 U f?,bs,z!,show min i.toNat (i+1).toNat=i.toNat by omega,ac V];rfl
        .rw[ac B,H9 U f?,bs,z!,show min i.toNat (i+1).toNat=i.toNat by omega,ac (by simp[RK,B])];rfl
       .rw[a6 (by simp[A]),ac (by simp[RK,A])];rfl
     .rw[a6 (by simp;exact λk=>z k),bs,a6 rfl,bs,a6 rfl,ac (by simp[RK,z])];rfl
    .rw[a6 (by simp;exact λk=>F k.symm),bs,a6 rfl,bs,a6 rfl,bs,a6 rfl,ac (λk=>F k.1)];rfl
  refine ⟨RK x y m i&&b,if(RK x y m i&&b)=X then st else Hi x y m i 0,λn C=>?_,?_,λe=>?_,λe=>?_⟩
  .rw[key n C];by_cases e:(RK x y m i&&b)=X
   .rw[a6 e,a6 e,e]
   .rw[ac e,ac e,C!.2 e]
  .rw[ne,H];constructor
   .rintro⟨a1,θ,ε⟩;refine⟨λj w E=>?_,ε⟩;by_cases e:j=i
    .exact e▸a1
    .exact θ j U E
   .exact λa=>⟨a.1 i U U,λj w E=>a.1 j U E,a.2⟩
  .rw[a6 e];rw[ne]at e;exact I e.2
  .rw[ac (by rw[e];decide)]
variable{l:Fp}
theorem xw(B:l.length<=100000)(h:0<l.length):∃v,slices_Min_int l=Y v/\(v<0↔∃x∈l,x<0):=by
 unfold slices_Min_int;rw[ac a_,AD U U,bs];obtain⟨s,e,i1,i2⟩:=SB (f:=λ(z:Int)(A:Int)=>
  (idx l z).bind λw=>
  Y (min A w)) (λi s=>s∈l.take i.toNat/\∀x∈l.take i.toNat,s<=x) (a:=1) (b:=(l.length:Int)) (s:=AA l 0) U (by
   have:=BU (l:=l) (i:=0) U U;rw[show((0:Int)+1).toNat=1 by omega]at this;rw[show(1:Int).toNat=1 by omega,this];simp) (λi s z i1 hi=>by
   rw [AD U i1,bs];refine⟨_,rfl,?_⟩;rw[BU U i1];refine⟨?_,λx u=>?_⟩
   .rcases Int.le_total s (AA l i)with h|h
    .rw[Int.min_eq_left h];exact List.mem_append_left _ hi.1
    .rw[Int.min_eq_right h];exact List.mem_append_right _ (z?.2 rfl)
   .rcases v!.1 u with u|u
    .have:=hi.2 x u;omega
    .rw[z?.1 u];omega)
 rw [E!,y!]at i1 i2;rw[e,bs];exact⟨s,rfl,λk=>⟨s,i1,k⟩,λ⟨x,u,k⟩=>by have:=i2 x u;omega⟩
theorem bO{e:List Fp}(h:e.flatten.length<=100000):FH e=Y e.flatten:=by
 have cut:∀k:Nat,(e.take k).flatten.length<=e.flatten.length:=λk=>by
  conv=>rhs;rw[<-List.take_append_drop k e,A_,az]
  omega
 have u:∀i:Int,0<=i->i<e.length->(e.take (i+1).toNat).flatten=(e.take i.toNat).flatten++AA e i:=λi f i1=>by
  rw [BU f i1,A_];simp
 unfold FH J0;rw[By (λi=>((e.take i.toNat).flatten.length:Int)) U V,bs,E!,y!,a6 ⟨rfl,U,a?⟩,bs,By (λi=>(e.take i.toNat).flatten) U V,bs,E!,y!]
 .intro i f i1;have c:=cut (i+1).toNat
  rw [u i f i1,az]at c;rw[AD f i1,bs,AV a?,bs,u i f i1]
 .intro i f i1;have c:=cut (i+1).toNat
  rw [u i f i1,az]at c;rw[AD f i1,bs,A1 U U,ac a_,u i f i1,az];simp
theorem yN(F:DN x)(G:DN y)(xv:x.eb.length=x.dr.dl.length)(yv:y.eb.length=y.dr.dl.length)(ends:∀e∈x.dr.d3,(0<=e.hV/\e.hV<x.dr.dl.length)/\0<=e.To/\e.To<x.dr.dl.length)(m:d4):
  ∃b,F3 x y m=Y b/\(b=X↔Tl x y m/\x.dr.dl.length=y.dr.dl.length/\x.dr.d3.length=y.dr.d3.length/\qy x y m 0):=by
 have O:=F.ea;have P:=F.eg;have Q:=G.ea;have S:=G.eg;unfold F3;by_cases H:m.dl.length=x.dr.dl.length
 case neg=>exact⟨T,by rw[a6 a_],by simp;exact λa=>absurd a.nl H⟩
 by_cases I:m.d3.length=x.dr.d3.length
 case neg=>exact⟨T,by rw[a6 a_],by simp;exact λa=>absurd a.el I⟩
 rw [ac a_,bO a_,bs,AV b_,bs];obtain⟨v,ev,hv⟩:=xw (l:=[m.dl,m.d3].flatten++[0]) a_ a_;rw[ev,bs];by_cases A:v<0
 .refine⟨T,by rw[a6 t!],by simp;rintro a;obtain⟨z,u,D⟩:=hv.1 A;simp at u;rcases u with u|u|u;(have:=a.nin z u;omega);(have:=a.ein z u;omega);omega⟩
 have pos:∀z,z∈m.dl\/z∈m.d3->0<=z:=λz u=>by
  rcases E? z 0 with k|k
  .exact absurd (hv.2 ⟨z,by simp;rcases u with u|u;exact .inl u;exact .inr (.inl u),k⟩) A
  .exact k
 rw [ac t!,R9 (f:=λE=>Jn E y) (p:=λk=>decide ((y.dr.dl.length:Int)<=k)) (λ_ _=>rfl),bs];by_cases B:m.dl.any (λk=>decide ((y.dr.dl.length:Int)<=k))=X
 .rw[a6 B,bs,a6 rfl];refine⟨T,rfl,by simp;rintro a;obtain⟨z,u,D⟩:=v6.1 B;have:=a.nin z u;simp at D;omega⟩
 rw [ac B,R9 (f:=λE=>Jo E y) (p:=λk=>decide ((y.dr.d3.length:Int)<=k)) (λ_ _=>rfl),bs,bs];by_cases C:m.d3.any (λk=>decide ((y.dr.d3.length:Int)<=k))=X
 .rw[a6 C];refine⟨T,rfl,by simp;rintro a;obtain⟨z,u,D⟩:=v6.1 C;have:=a.ein z u;simp at D;omega⟩
 have inn:Tl x y m:=⟨H,I,O,P,Q,S,xv,yv,ends,λk w=>⟨pos k (.inl w),by
   rcases E? k y.dr.dl.length with a|a
   .exact a
   .exact absurd (v6.2 ⟨k,w,by simpa using a⟩) B⟩,λk w=>⟨pos k (.inr w),by
   rcases E? k y.dr.d3.length with a|a
   .exact a
   .exact absurd (v6.2 ⟨k,w,by simpa using a⟩) C⟩⟩
 rw [ac C,Yl U,bs,Yl U,bs];unfold Dl;by_cases J:x.dr.dl.length=y.dr.dl.length
 case neg=>rw[a6 a_];exact⟨T,rfl,by simp;exact λ_ a=>absurd a J⟩
 by_cases K:x.dr.d3.length=y.dr.d3.length
 case neg=>rw[a6 a_];exact⟨T,rfl,by simp;exact λ_ _ a=>absurd a K⟩
 rw [ac a_,show(x.dr.dl.length:Int)=m.dl.length by omega,fw U (λz u=>pos z (.inl u)),bs,show(x.dr.d3.length:Int)=m.d3.length by omega,fw U (λz u=>pos z (.inr u)),bs,ac V];obtain⟨b,st,θ,N,ε,η⟩:=gD inn x.dr.dl.length 0 U U;have M:Gk (Hi x y m 0 0)=Y (b,st):=DV (x.dr.dl.length+1) λn κ=>θ n U;simp only[Hi,Int.toNat_zero,A']at M;dsimp only;rw[M,bs,bs];dsimp only;cases b with
 |false=>exact⟨T,rfl,by simp;exact λ_ _ _ a=>absurd (N.2 a) a!⟩|true=>
  rw [a6 rfl,ε rfl,Kb,bs,bs,a6 V,Kb,bs,bs];refine⟨_,rfl,λ_=>⟨inn,J,K,N.1 rfl⟩,λ_=>V⟩
end Go.Sf.Sc
namespace Go.Sf.Sc
open Go Go.Sf
theorem tS(n:Nat):(A3 n).Nodup:=by
 unfold A3;exact List.Pairwise.map _ (λa b h e=>h (Int.ofNat.inj e)) List.nodup_range
variable{l:Fp}{n:Nat}{i:Int}
theorem nV(f:l.Nodup)(v:l.length=n)(h:∀x∈l,0<=x/\x<n)(u:0<=i)(i1:i<n):i∈l:=by
 by_cases hi:i∈l
 .exact hi
 .have:=XK (l:=i::l) (n:=n) (List.nodup_cons.2 ⟨hi,f⟩) (λx e=>by
   rcases v1.1 e with rfl|e
   .exact⟨u,i1⟩
   .exact h x e)
  simp at this;omega
theorem KU:l.Nodup↔∀i:Int,0<=i->i<l.length->hasB (l.take i.toNat) (AA l i)=T:=by
 rw [<-QB];unfold J8;rw[C_,B6];refine⟨λh i u i1=>?_,λh i u i1=>?_⟩
 .have:=h i u i1;rw[B6]at this;rw[<-C?,CQ];intro w;obtain⟨j,f,v,e⟩:=Bh w;rw[bk]at v;have z:=this j f U;rw[t5 f U]at e;simp[e]at z
 .rw[B6];intro j f v;have:=h i u i1;rw[<-C?,CQ]at this;simp only[decide_eq_false_iff_not];intro e;refine this ?_;rw[e,<-t5 f v];exact AI f f?
theorem aL{x y:dr}{mn me:Fp}(nn:mn.length=x.dl.length)(nd:mn.Nodup)(E:me.length=x.d3.length)(ee:x.d3.length=y.d3.length)(ed:me.Nodup)(ein:∀k∈me,0<=k/\k<y.d3.length)
  (ends:∀e∈x.d3,(0<=e.hV/\e.hV<x.dl.length)/\0<=e.To/\e.To<x.dl.length)
  (edge:∀i:Int,0<=i->i<x.d3.length->AA y.d3 (AA me i)=⟨(AA x.d3 i).ia,AA mn (AA x.d3 i).hV,AA mn (AA x.d3 i).To⟩)
  {a b:Int}(a0:0<=a)(a1:a<x.dl.length)(F:0<=b)(G:b<x.dl.length):NG x a b=NG y (AA mn a) (AA mn b):=by
 have H:me.Perm (A3 y.d3.length):=(List.perm_ext_iff_of_nodup ed (tS _)).2 λk=>⟨λw=>Dx.2 (ein k w),λw=>nV ed U ein (Dx.1 w).1 (Dx.1 w).2⟩;have D:=H.map (AA y.d3);rw[Q7]at D;have I:x.d3.map (λe=>(⟨e.ia,AA mn e.hV,AA mn e.To⟩:CN))=me.map (AA y.d3):=by
  rw [Yb x.d3,Yb me,E];refine Cu λj f C=>?_;exact(edge j f C).symm
 unfold NG;rw[<-D.countP_eq,<-I,List.countP_map];refine List.countP_congr λe he=>?_;obtain⟨⟨J,K⟩,M,N⟩:=ends e he;have inj:∀{i j:Int},0<=i->i<x.dl.length->0<=j->j<x.dl.length->AA mn i=AA mn j->i=j:=λ{i j}z i1 f C e=>by
  by_cases A:i<j
  .have:=KU.1 nd j f U;rw[<-C?,CQ]at this;refine absurd ?_ this;rw[<-e,<-t5 z A];exact AI z f?
  by_cases B:j<i
  .have:=KU.1 nd i z U;rw[<-C?,CQ]at this;refine absurd ?_ this;rw[e,<-t5 f B];exact AI f f?
  omega
 simp only[Function.comp_apply,ne,sA];exact⟨λ⟨u,v⟩=>⟨by rw[u],by rw[v]⟩,λ⟨u,v⟩=>⟨inj J K a0 a1 u,inj M N F G v⟩⟩
end Go.Sf.Sc
namespace Go.Sf.Sc
open Go Go.Sf
noncomputable def Gy(t:AC)(st:AR):Bool:=decide ((Ef t st.eh st.fl st.j0).2=0)&&jk (Ef t st.eh st.fl st.j0).1 st
variable{st:AR}
theorem fm{t:AC}(hf:A0 t)(fr:H0 st.eh)(f:Do st.eh.d5<=40):J1 t st=Y (Gy t st):=by
 unfold J1 Gy;rw[Yn hf fr f,bs];by_cases e:(Ef t st.eh st.fl st.j0).2=0
 .rw[a6 b?,vY,bs,bs];simp[e]
 .rw[ac b?,bs];simp[e]
theorem gU{t:AC}(hf:A0 t)(fr:H0 st.eh)(f:Do st.eh.d5<=40)(w:G0 st.ex):L9 t st=Y (Gy t st):=by
 unfold L9 Gy;rw[gm hf fr f,bs];by_cases e:(Ef t st.eh st.fl st.j0).2=0
 .obtain⟨s,v⟩:=Tn hf fr f e;have u:=cD s;rw[a6 b?,v,vu u (b:=st) ⟨u.b,w⟩,bs,bs];simp
 .rw[ac b?,bs];simp[e]
theorem V1{t:AC}(hf:A0 t)(fr:H0 st.eh)(v:Do st.eh.d5<=40)(h:Gy t st=X):G0 st.fl/\JI st.fl st/\DN st.ex:=by
 unfold Gy at h;simp only[ne,sA]at h;obtain⟨s,e⟩:=Tn hf fr v h.1;have f:=ZM.1 h.2;rw[e]at f;have u:=cD s;have tk:=s.trk;dsimp only at f;rw[f]at u tk;exact⟨u.b,tk,tk.sm⟩
variable{d:Bi}
theorem af{t:AC}(hf:A0 t){rules:List eh}(hr:Eu rules)(h:O7 t rules d):∀n:Nat,n<=d.ib.length->(ER t (Em t rules d.gp (d.ib.take n)).2).2=0
 |0,_=>(V5 hf h.given).2.1|n+1,u=>by
  have he:=h.gx n U U;have e:=BU (l:=d.ib) (i:=(n:Int)) U U;rw[show((n:Int)+1).toNat=n+1 by omega,E!]at e;unfold Qu at he;rw[E!]at he;obtain⟨_,s,f⟩:=Rw hf hr he;rw[e,Ol,f];exact congrArg Prod.snd (WV s)
theorem T4:∀(l:List AR)(m:d4),(MN m l).dl.length=m.dl.length/\(MN m l).d3.length=m.d3.length
 |[],m=>⟨rfl,rfl⟩|s::l,m=>by
  have:=T4 l (DE m s.kl);simp only[DE,Cf,c9]at this;exact this
structure cd(t:AC)(d:Bi)(x:AF×d4×Int):Prop where
 small:DN x.1
 ok:Ix t x.1
 t2:x.2.1.dl.length=d.gp.dr.dl.length
 wi:x.2.1.d3.length=d.gp.dr.d3.length
 inn:IY x.2.1 x.1.dr
theorem nu{t:AC}(hf:A0 t){rules:List eh}(hr:Eu rules)(e:(JN t rules d).2.2=0):cd t d (JN t rules d):=by
 have h:O7 t rules d:=Y2.1 (by rw[<-ul];exact e);obtain⟨u,v⟩:=Q4 hf hr h d.ib.length (ae _);have c3:=af hf hr h d.ib.length (ae _);rw[y!]at u v c3;have w:JN t rules d=((Em t rules d.gp d.ib).2,MN (P5 d.gp.dr) (Em t rules d.gp d.ib).1,0):=by
  unfold JN;rw[ac (by rw[Y2.2 h];simp)]
 rw [w];have f:=T4 (Em t rules d.gp d.ib).1 (P5 d.gp.dr);exact⟨u,(Ou hf c3).2,by rw[f.1];exact A4 _,by rw[f.2];exact A4 _,v⟩
variable{l by':Fp}
theorem KD(v:l.length<=1000)(h:∀x∈l,-1<=x/\x<by'.length):C0 l by'=Y (Cf l by'):=by
 unfold C0;rw[SG (F:=λx=>if x<0 then -1 else AA by' x) λi s f i1 w=>?_]
 .rfl
 .have u:=h _ (AI f i1);rw[AD f i1,bs];by_cases e:0<=AA l i
  .rw[a6 d_,AD e u.2,bs,AV b_,bs,ac U]
  .rw[ac d_,AV b_,bs,a6 U,show AA l i=-1 by omega]
theorem UU(v:l.length<=1000)(h:∀x∈l,-1<=x/\x<by'.length):GP l by'=Y (Cf l by'):=by
 unfold GP;rw[SG (F:=λx=>if x<0 then -1 else AA by' x) λi s f i1 w=>?_]
 .rfl
 .have u:=h _ (AI f i1);rw[AD f i1,bs];by_cases e:AA l i<0
  .rw[a6 d_,AV b_,bs,a6 e]
  .rw[ac d_,bs,AD U u.2,bs,AV b_,bs,ac e]
variable{x:AF}
theorem oV(h:DN x):N0 x=Y x:=by
 have:=h.ea;have:=h.eg;have:=h.vals;unfold N0 slices_Clone_int DL;rw[Be a?,bs,Be a?,bs];rw[By (λi=>AF.mk x.dr (x.eb.take i.toNat)) U q?]
 .rw[E!,y!];rfl
 .intro i e i1;have f:=h.rows _ (AI e i1);rw[AD e i1,bs,Be a?,bs,AV (by rw[bk];simp;unfold AY;omega),bs,BU e i1]
theorem FI(l e:Fp):(Cf l e).length=l.length:=by unfold Cf;rw[c9]
def DP(s:AR)(p:BN):d4:=⟨Cf p.dl s.kl.dl,Cf p.d3 s.kl.d3⟩
variable{s:AR}
theorem YO{p:BN}(e:WU s.fl p)(f:JI s.fl s):IY (DP s p) s.ex.dr:=by
 refine ⟨by show(Cf _ _).length<=1000;rw[FI];exact e.t2,by show(Cf _ _).length<=1000;rw[FI];exact e.wi,?_,?_⟩
 .exact Mj (λx u=>by have:=e.node x u;rw[f.t2];omega) f.node
 .exact Mj (λx u=>by have:=e.edge x u;rw[f.wi];omega) f.edge
theorem UR{p:BN}(e:WU s.fl p)(u:JI s.fl s)(v:DN s.ex):HZ s p=Y ⟨⟨s.ex,[]⟩,s.ex,DP s p⟩:=by
 unfold HZ;rw[oV v,bs,KD e.t2 (λx f=>by have:=e.node x f;rw[u.t2];omega),bs,KD e.wi (λx f=>by have:=e.edge x f;rw[u.wi];omega),bs];rfl
theorem gk{p:BN}(e:WU s.fl p)(u:JI s.fl s):MD s p=Y ⟨[],s.ex,DP s p⟩:=by
 unfold MD;rw[UU e.t2 (λx f=>by have:=e.node x f;rw[u.t2];omega),bs,UU e.wi (λx f=>by have:=e.edge x f;rw[u.wi];omega),bs];rfl
theorem kU(m:d4):Ng m=Y (hasB m.dl (-1)||hasB m.d3 (-1)):=by
 have e:∀l:Fp,Ft l (-1)=Y (hasB l (-1)):=λl=>by
  unfold Ft;exact LP l (-1)
 unfold Ng;rw[e,bs];cases hasB m.dl (-1)with
 |true=>rfl|false=>rw[ac a!,e,bs,bs];rfl
theorem gJ{t:AC}(hf:A0 t){rules:List eh}(hr:Eu rules){a b:AR}(fa:H0 a.eh)(ka:Do a.eh.d5<=40)(fb:H0 b.eh)(kb:Do b.eh.d5<=40):
  Jp t rules a b=Y (if Du t rules≠0 then Du t rules else if(Gy t a&&Gy t b)=T then 1 else if a.fl=b.fl then 0 else 8):=by
 have v:(SS t rules ⟨⟨⟨[],[]⟩,[]⟩,[]⟩).2.2=Du t rules:=by
  by_cases h:Du t rules=0
  .have hv:(BF t).2=0:=by
    unfold Du at h;split at h
    next k=>exact absurd h k
    next k=>exact D?.1 k
   have hh:(ER t ⟨⟨[],[]⟩,[]⟩).2=0:=by
    unfold ER;rw[ac l!,ac (by simp[CL]),ac V,Bf.2 (λi u i1=>k!)];dsimp only;rw[Bf.2 (λi u i1=>k!)];rfl
   have f:G3 t rules ⟨⟨[],[]⟩,[]⟩=0:=by
    unfold G3;rw[ac q_];exact hh
   rw [pH (d:=⟨⟨⟨[],[]⟩,[]⟩,[]⟩) ⟨f,V,λi u i1=>k!⟩];exact h.symm
  .have f:G3 t rules ⟨⟨[],[]⟩,[]⟩=Du t rules:=by
    unfold G3;rw[a6 h]
   unfold SS;rw[a6 (by rw[f];exact h)];exact f
 unfold Jp DB;rw[gG hf hr,bs,v];by_cases h:Du t rules=0
 case neg=>rw[a6 c?,a6 h]
 rw [ac q_,ac q_,fm hf fa ka,bs];cases Gy t a with
 |false=>rfl|true=>
  rw [ac a!,fm hf fb kb,bs,bs];cases Gy t b with
  |false=>rfl|true=>
   rw [ac a!,Ry,bs];by_cases e:a.fl=b.fl
   .rw[ac b?,ac a!,a6 e]
   .rw[a6 b?,ac a!,ac e]
theorem VN{t:AC}(h:Ix t x):D6 x.dr/\x.eb.length=x.dr.dl.length/\∀e∈x.dr.d3,(0<=e.hV/\e.hV<x.dr.dl.length)/\0<=e.To/\e.To<x.dr.dl.length:=⟨h.g,h.len,λe he=>(h.g.fit e he).2⟩
end Go.Sf.Sc
namespace Go.Sf.Sc
open Go Go.Sf
noncomputable def Te(a b:AR)(p:BN)(m n iso:d4):Bool:=
 if hasB ([(DE (DP a p) m).dl,(DE (DP a p) m).d3,(DE (DP b p) n).dl,(DE (DP b p) n).d3].flatten) (-1)=X then T
 else decide (Cf (DE (DP a p) m).dl iso.dl=(DE (DP b p) n).dl)&&decide (Cf (DE (DP a p) m).d3 iso.d3=(DE (DP b p) n).d3)
theorem uw(a b:Fp)(v:Int):hasB (a++b) v=(hasB a v||hasB b v):=by simp[hasB]
variable{s:AR}{d:Bi}
theorem iS{p:BN}{t:AC}{x:AF×d4×Int}(hi:IY (DP s p) s.ex.dr)(u:d.gp=s.ex)(f:cd t d x):IY (DE (DP s p) x.2.1) x.1.dr:=by
 refine ⟨by show(Cf _ _).length<=1000;rw[FI];exact hi.t2,by show(Cf _ _).length<=1000;rw[FI];exact hi.wi,?_,?_⟩
 .exact Mj (λy e=>by have:=hi.node y e;rw[f.t2,u];exact this) f.inn.node
 .exact Mj (λy e=>by have:=hi.edge y e;rw[f.wi,u];exact this) f.inn.edge
structure za(t:AC)(a b:AR)(p:BN)(x y:AF×d4×Int)(iso:d4):Prop where
 ha:JI a.fl a
 hb:JI b.fl b
 pa:WU a.fl p
 pb:WU b.fl p
 fx:∃d,d.gp=a.ex/\cd t d x
 fy:∃d,d.gp=b.ex/\cd t d y
 io:Tl x.1 y.1 iso
 i1:iso.dl.length<=1000
 i2:iso.d3.length<=1000
 sa:DN a.ex
 sb:DN b.ex
theorem va{t:AC}{a b:AR}{p:BN}{x y:AF×d4×Int}{f:d4}(z:za t a b p x y f):
  ((HZ a p).bind λB=>
 (HZ b p).bind λC=>
 (C0 B.fd.dl x.2.1.dl).bind λD=>
 (C0 B.fd.d3 x.2.1.d3).bind λv=>
 (C0 C.fd.dl y.2.1.dl).bind λw=>
 (C0 C.fd.d3 y.2.1.d3).bind λA=>
 (FH [D,v,w,A]).bind λE=>
 (slices_Contains_int E (-1)).bind λF=>
 if F=X then
 Y (X,T)
 else
 (C0 D f.dl).bind λG=>
 (slices_Equal_int G w).bind λH=>
 (if H=X then((C0 v f.d3).bind λI=>
 (slices_Equal_int I A).bind λJ=>
 Y (J))else Y T).bind λK=>
 Y (X,K))=Y (X,Te a b p x.2.1 y.2.1 f):=by
 obtain ⟨ha,hb,pa,pb,⟨ζ,O,fx⟩,⟨δ,hr,fy⟩,io,i1,i2,sa,sb⟩:=z;have M:=YO pa ha;have N:=YO pb hb;have ta:=iS M O fx;have tb:=iS N hr fy;have xn:∀z∈(DP a p).dl,-1<=z/\z<x.2.1.dl.length:=λz u=>by have:=M.node z u;rw[fx.t2,O];exact this
 have xe:∀z∈(DP a p).d3,-1<=z/\z<x.2.1.d3.length:=λz u=>by have:=M.edge z u;rw[fx.wi,O];exact this
 have yn:∀z∈(DP b p).dl,-1<=z/\z<y.2.1.dl.length:=λz u=>by have:=N.node z u;rw[fy.t2,hr];exact this
 have ye:∀z∈(DP b p).d3,-1<=z/\z<y.2.1.d3.length:=λz u=>by have:=N.edge z u;rw[fy.wi,hr];exact this
 have l1:=ta.t2;have l2:=ta.wi;have κ:=tb.t2;have η:=tb.wi;have P:∀z∈(DE (DP a p) x.2.1).dl,-1<=z/\z<f.dl.length:=λz u=>by have:=ta.node z u;rw[io.nl];exact this
 have Q:∀z∈(DE (DP a p) x.2.1).d3,-1<=z/\z<f.d3.length:=λz u=>by have:=ta.edge z u;rw[io.el];exact this
 have a1:Cf (DP a p).dl x.2.1.dl=(DE (DP a p) x.2.1).dl:=rfl;have S:Cf (DP a p).d3 x.2.1.d3=(DE (DP a p) x.2.1).d3:=rfl;have θ:Cf (DP b p).dl y.2.1.dl=(DE (DP b p) y.2.1).dl:=rfl;have ε:Cf (DP b p).d3 y.2.1.d3=(DE (DP b p) y.2.1).d3:=rfl;unfold Te;rw[UR pa ha sa,bs,UR pb hb sb,bs];dsimp only;rw[KD M.t2 xn,bs,KD M.wi xe,bs,KD N.t2 yn,bs,KD N.wi ye,bs,a1,S,θ,ε,bO a_,bs,QA,bs];by_cases g:hasB ([(DE (DP a p) x.2.1).dl,(DE (DP a p) x.2.1).d3,(DE (DP b p) y.2.1).dl,(DE (DP b p) y.2.1).d3].flatten) (-1)=X
 .rw[a6 g,a6 g]
 .rw[ac g,ac g,KD l1 P,bs,Kb,bs];by_cases e:Cf (DE (DP a p) x.2.1).dl f.dl=(DE (DP b p) y.2.1).dl
  .rw[a6 d_,KD l2 Q,bs,Kb,bs,bs];simp[e]
  .rw[ac d_,bs];simp[e]
end Go.Sf.Sc
namespace Go.Sf.Sc
open Go Go.Sf
variable{c:Bool}
theorem KB{b:Bool}{o:K1}(h:b=T->o=Y c):(if b=X then Y X else o.bind λx=>Y (!x))=Y (b||!c):=by
 cases b with
 |true=>rfl|false=>rw[ac a!,h rfl];rfl
structure ACo(t:AC)(rules:List eh)(a b:AR)(j:pr):Prop where
 gr:Du t rules=0
 ga:Gy t a=X
 gb:Gy t b=X
 before:a.fl=b.fl
 left:j.fu.gp=a.ex
 right:j.ec.gp=b.ex
theorem Uh:∀{l:Fq}(n:Nat),TV.Sms l->TV.Sms (l.take n)
 |[],n,_=>u?
 |x::l,0,_=>trivial|x::l,n+1,h=>⟨h.1,Uh n h.2⟩
theorem iL:∀{l:Fq}(n:Nat),TV.Sms l->TV.Sms (l.drop n)
 |[],n,_=>u?
 |x::l,0,h=>h|x::l,n+1,h=>iL n h.2
theorem Xj:∀{l:Fq}(n:Nat),TV.p0 l->TV.p0 (l.take n)
 |[],n,_=>u?
 |x::l,0,_=>trivial|x::l,n+1,h=>⟨h.1,Xj n h.2⟩
theorem Xh:∀{l:Fq}(n:Nat),TV.p0 l->TV.p0 (l.drop n)
 |[],n,_=>u?
 |x::l,0,h=>h|x::l,n+1,h=>Xh n h.2
variable{s:AR}
theorem jO(e:(Br s).Sm)(f:(Br s).WF):(B3 s.eh).Sm/\∀v∈s.ex.eb,∀x∈v,SX x:=by
 have w:TV.Sms [_,_,_,_,_,_,_,_,_,_,_,_,_,_,_,_,_,_,_,_,_,_,_,_,_,_,_,_,_,_,_,_,_,_,_,_,_,_]:=e;have w':TV.p0 [_,_,_,_,_,_,_,_,_,_,_,_,_,_,_,_,_,_,_,_,_,_,_,_,_,_,_,_,_,_,_,_,_,_,_,_,_,_]:=f;refine⟨Uh 25 w,λv hv x u=>?_⟩;have z:=(Xh 33 w').1;have A:(TV.list 1 (s.ex.eb.map (eL 1 eI))).WF:=z;have B:(TV.list 1 (v.map eI)).WF:=Xi A.2 v hv;exact Xi B.2 x u
end Go.Sf.Sc
namespace Go.Sf.Sc
open Go Go.Sf
def KA(x y:AF)(ns mn:Fp)(i j:Int):Bool:=
 (decide (AA ns i<0)||decide (AA ns i=j))&&decide (AA y.dr.dl j=AA x.dr.dl i)&&!hasB mn j&&decide (AA x.eb i=AA y.eb j)
def MO(x y:AF)(es mn me:Fp)(i j:Int):Bool:=
 (decide (AA es i<0)||decide (AA es i=j))&&decide (AA y.dr.d3 j=⟨(AA x.dr.d3 i).ia,AA mn (AA x.dr.d3 i).hV,AA mn (AA x.dr.d3 i).To⟩)&&!hasB me j
def EO(x y:AF)(es mn:Fp):Nat->Fp->Option Fp
 |0,me=>Y me|k+1,me=>fst (λj=>if MO x y es mn me me.length j=X then EO x y es mn k (me++[j])else W) 0 y.dr.d3.length
def Gb(x y:AF)(ns es:Fp):Nat->Fp->Option d4
 |0,mn=>(EO x y es mn x.dr.d3.length []).map (d4.mk mn)|k+1,mn=>fst (λj=>if KA x y ns mn mn.length j=X then Gb x y ns es k (mn++[j])else W) 0 y.dr.dl.length
def Zv(x y:AF)(es mn r:Fp)(n:Int):Prop:=∀i:Int,0<=i->i<n->(0<=AA r i/\AA r i<y.dr.d3.length)/\MO x y es mn (r.take i.toNat) i (AA r i)=X
def Zw(x y:AF)(ns r:Fp)(n:Int):Prop:=∀i:Int,0<=i->i<n->(0<=AA r i/\AA r i<y.dr.dl.length)/\KA x y ns (r.take i.toNat) i (AA r i)=X
theorem qO(l:Fp)(j:Int):AA (l++[j]) l.length=j:=by simp[AA]
variable{l:Fp}{j i:Int}
theorem Xd{P:Fp->Int->Int->Prop}(h:∀i:Int,0<=i->i<l.length->P (l.take i.toNat) i (AA l i))(e:P l l.length j)(f:0<=i)(i1:i<(l++[j]).length):P ((l++[j]).take i.toNat) i (AA (l++[j]) i):=by grind[Xu,qO,y!]
variable{x y:AF}
theorem Wa{es mn:Fp}:∀(k:Nat)(me r:Fp),me.length+k=x.dr.d3.length->Zv x y es mn me me.length->EO x y es mn k me=Y r->r.length=x.dr.d3.length/\Zv x y es mn r x.dr.d3.length
 |0,me,r,A,ho,h=>by
  cases h
  grind
 |k+1,me,r,A,ho,h=>by
  obtain ⟨j,v,w,e,_⟩:=Cc h;split at e
  next f=>exact Wa k (me++[j]) r a_ (λi u i1=>Xd (P:=λp i z=>(0<=z/\z<y.dr.d3.length)/\MO x y es mn p i z=X) ho ⟨⟨v,w⟩,f⟩ u i1) e
  .cases e
theorem aO{es mn r:Fp}(v:r.length=x.dr.d3.length)(ho:Zv x y es mn r x.dr.d3.length):∀(k i:Nat),i+k=x.dr.d3.length->EO x y es mn k (r.take i)≠W
 |0,_,_=>by simp[EO]|k+1,i,w=>λh=>by
  rw [EO,Bf]at h;obtain⟨⟨a,b⟩,f⟩:=ho i U U;have e:=h _ a b;have u:((r.take i).length:Int)=i:=f?
  have tk:=BU (l:=r) (i:=(i:Int)) U U;rw[u]at e;rw[E!]at f tk;rw[a6 f,<-tk]at e;exact aO v ho k (i+1) U e
theorem TE{ns es:Fp}:∀(k:Nat)(mn:Fp)(m:d4),mn.length+k=x.dr.dl.length->Zw x y ns mn mn.length->Gb x y ns es k mn=Y m ->
  m.dl.length=x.dr.dl.length/\Zw x y ns m.dl x.dr.dl.length/\m.d3.length=x.dr.d3.length/\Zv x y es m.dl m.d3 x.dr.d3.length/\m.dl.take mn.length=mn
 |0,mn,m,B,ho,h=>by
  have e:mn.length=x.dr.dl.length:=U
  rw [Gb]at h;cases u:EO x y es mn x.dr.d3.length []with
  |none=>rw[u]at h;cases h
  |some r=>
   rw [u]at h;cases h;obtain⟨a,b⟩:=Wa _ _ _ V (λi v i1=>k!) u
   grind
 |k+1,mn,m,B,ho,h=>by
  obtain ⟨j,w,A,e,_⟩:=Cc h;split at e
  .rename_i f;obtain⟨a,b,c,d,g⟩:=TE k (mn++[j]) m a_ (λi v i1=>Xd (P:=λp i z=>(0<=z/\z<y.dr.dl.length)/\KA x y ns p i z=X) ho ⟨⟨w,A⟩,f⟩ v i1) e;refine⟨a,b,c,d,?_⟩;have:=congrArg (List.take mn.length) g
   grind
  .cases e
variable{m:d4}
theorem bL{ns es:Fp}(nl:m.dl.length=x.dr.dl.length)(ho:Zw x y ns m.dl x.dr.dl.length)(el:m.d3.length=x.dr.d3.length)(he:Zv x y es m.dl m.d3 x.dr.d3.length):∀(k i:Nat),i+k=x.dr.dl.length->Gb x y ns es k (m.dl.take i)≠W
 |0,i,v=>by
  have:=aO el he x.dr.d3.length 0 U;rw[z_ U,Gb];rw[A']at this;cases h:EO x y es m.dl x.dr.d3.length []with
  |none=>exact absurd h this|some r=>simp
 |k+1,i,v=>λh=>by
  rw [Gb,Bf]at h;obtain⟨⟨a,b⟩,f⟩:=ho i U U;have e:=h _ a b;have u:((m.dl.take i).length:Int)=i:=f?
  have tk:=BU (l:=m.dl) (i:=(i:Int)) U U;rw[u]at e;rw[E!]at f tk;rw[a6 f,<-tk]at e;exact bL nl ho el he k (i+1) U e
structure S7(x y:AF)(m:d4):Prop where
 nl:m.dl.length=x.dr.dl.length
 el:m.d3.length=x.dr.d3.length
 nn:x.dr.dl.length=y.dr.dl.length
 ee:x.dr.d3.length=y.dr.d3.length
 nin:∀i:Int,0<=i->i<x.dr.dl.length->0<=AA m.dl i/\AA m.dl i<y.dr.dl.length
 ein:∀i:Int,0<=i->i<x.dr.d3.length->0<=AA m.d3 i/\AA m.d3 i<y.dr.d3.length
 nd:m.dl.Nodup
 ed:m.d3.Nodup
 node:∀i:Int,0<=i->i<x.dr.dl.length->AA y.dr.dl (AA m.dl i)=AA x.dr.dl i/\AA x.eb i=AA y.eb (AA m.dl i)
 edge:∀i:Int,0<=i->i<x.dr.d3.length->AA y.dr.d3 (AA m.d3 i)=⟨(AA x.dr.d3 i).ia,AA m.dl (AA x.dr.d3 i).hV,AA m.dl (AA x.dr.d3 i).To⟩
def ce(ns l:Fp):Prop:=∀i:Int,0<=i->i<l.length->0<=AA ns i->AA l i=AA ns i
theorem XE{ns es:Fp}(nn:x.dr.dl.length=y.dr.dl.length)(ee:x.dr.d3.length=y.dr.d3.length):
  (m.dl.length=x.dr.dl.length/\Zw x y ns m.dl x.dr.dl.length/\m.d3.length=x.dr.d3.length/\Zv x y es m.dl m.d3 x.dr.d3.length)↔S7 x y m/\ce ns m.dl/\ce es m.d3:=by
 constructor
 .rintro⟨a,b,c,d⟩;refine⟨⟨a,c,nn,ee,λi e i1=>(b i e i1).1,λi e i1=>(d i e i1).1,KU.2 λi e i1=>?_,KU.2 λi e i1=>?_,λi e i1=>?_,λi e i1=>?_⟩,λi e i1 g=>?_,λi e i1 g=>?_⟩
  .have:=(b i e U).2;simp only[KA,ne,C_]at this;exact this.1.2
  .have:=(d i e U).2;simp only[MO,ne,C_]at this;exact this.2
  .have:=(b i e i1).2;simp only[KA,ne,sA]at this;exact⟨this.1.1.2,this.2⟩
  .have:=(d i e i1).2;simp only[MO,ne,sA]at this;exact this.1.2
  .have:=(b i e U).2;simp only[KA,ne,D_,sA]at this;omega
  .have:=(d i e U).2;simp only[MO,ne,D_,sA]at this;omega
 .rintro⟨h,f,u⟩;have l1:=h.nl;have l2:=h.el;refine⟨l1,λi e i1=>⟨h.nin i e i1,?_⟩,l2,λi e i1=>⟨h.ein i e i1,?_⟩⟩
  .have k:=f i e U;simp only[KA,ne,D_,sA,C_];exact⟨⟨⟨U,(h.node i e i1).1⟩,KU.1 h.nd i e U⟩,(h.node i e i1).2⟩
  .have k:=u i e U;simp only[MO,ne,D_,sA,C_];exact⟨⟨U,h.edge i e i1⟩,KU.1 h.ed i e U⟩
def Pd(x y:AF)(ns es:Fp):Nat->Fp->Option d4
 |0,mn=>(EO x y es mn x.dr.d3.length []).map (d4.mk mn)|k+1,mn=>fst (λj=>if(KA x y ns mn mn.length j&&SF x y (mn++[j]) mn.length)=X then Pd x y ns es k (mn++[j])else W) 0 y.dr.dl.length
def PO(x:AF):Prop:=∀e∈x.dr.d3,(0<=e.hV/\e.hV<x.dr.dl.length)/\0<=e.To/\e.To<x.dr.dl.length
theorem bC(h:S7 x y m)(ends:PO x)(e:0<=i)(i1:i<x.dr.dl.length):SF x y m.dl i=X:=by
 have l1:=h.nl;have l2:=h.el;have u:=h.ee;have ein:∀k∈m.d3,0<=k/\k<y.dr.d3.length:=λk v=>by
  obtain ⟨i,e,i1,rfl⟩:=Bh v;exact h.ein i e U
 unfold SF;rw[C_,B6];intro j f w;unfold j7;rw[<-aL l1 h.nd l2 u h.ed ein ends h.edge f U e i1,<-aL l1 h.nd l2 u h.ed ein ends h.edge e i1 f U];simp
variable{n:Nat}
theorem vC(e:0<=i)(h:i<n):SF x y (l.take n) i=SF x y l i:=by
 unfold SF;congr 1;refine Tm λj f u=>?_;unfold j7;rw[Go.Sf.t5 U,Go.Sf.t5 U]
theorem Wh{ns es:Fp}(nn:x.dr.dl.length=y.dr.dl.length)(ee:x.dr.d3.length=y.dr.d3.length)(ends:PO x):∀(k:Nat)(mn:Fp),mn.length+k=x.dr.dl.length->Zw x y ns mn mn.length->Pd x y ns es k mn=Gb x y ns es k mn
 |0,_,_,_=>rfl|k+1,mn,B,ho=>by
  rw [Pd,Gb];refine ap λj v w _=>?_;by_cases f:KA x y ns mn mn.length j=X
  case neg=>rw[ac (by simp[f]),ac f]
  have u:Zw x y ns (mn++[j]) (mn++[j]).length:=λi A i1=>Xd (P:=λp i z=>(0<=z/\z<y.dr.dl.length)/\KA x y ns p i z=X) ho ⟨⟨v,w⟩,f⟩ A i1;rw[a6 f,f,D'];by_cases g:SF x y (mn++[j]) mn.length=X
  .rw[a6 g,Wh nn ee ends k _ a_ u]
  rw [ac g];cases h:Gb x y ns es k (mn++[j])with
  |none=>rfl|some m=>
   obtain ⟨a,b,c,d,e⟩:=TE k _ m a_ u h
   grind [XE,vC,bC]
end Go.Sf.Sc
namespace Go.Sf.Sc
open Go Go.Sf
def TC:List (Int×Int)->Fp->Option Fp
 |[],o=>Y o|p::r,o=>if decide (p.1<0)≠decide (p.2<0)then W else if p.1<0 then TC r o else if 0<=AA o p.1/\AA o p.1≠p.2 then W else TC r (BR o p.1 p.2)
def dT(f:Int->Int)(ps:List (Int×Int)):Prop:=∀p∈ps,0<=p.1->f p.1=p.2
def aD(f:Int->Int)(o:Fp):Prop:=∀k:Int,0<=k->k<o.length->0<=AA o k->f k=AA o k
theorem nU{f:Int->Int}{o:Fp}{p:Int×Int}(h0:0<=p.1)(e:p.1<o.length)(u:0<=p.2)(h:¬(0<=AA o p.1/\AA o p.1≠p.2)):aD f (BR o p.1 p.2)↔f p.1=p.2/\aD f o:=by grind[aD,KS,jV,jW]
theorem Oe:∀{e:List (Int×Int)}{o r:Fp},(∀p∈e,p.1<o.length)->TC e o=Y r->r.length=o.length/\(∀p∈e,(p.1<0↔p.2<0))/\∀f:Int->Int,(dT f e/\aD f o↔aD f r)
 |[],o,r,_,h=>by
  cases h;exact⟨rfl,λp v=>by simp at v,λf=>⟨λk=>k.2,λk=>⟨λp v=>by simp at v,k⟩⟩⟩
 |p::e,o,r,hi,h=>by
  rw [TC]at h;split at h
  .cases h
  rename_i z;have C:p.1<0↔p.2<0:=by simpa using z
  have u:∀q∈e,q.1<o.length:=λq w=>hi q (v5 _ w);have D:∀f,dT f (p::e)↔(0<=p.1->f p.1=p.2)/\dT f e:=λf=>by simp[dT]
  split at h
  .rename_i A;obtain⟨a,b,c⟩:=Oe u h
   grind
  .rename_i A;split at h
   .cases h
   rename_i B;have v:=hi p (.head _);obtain⟨a,b,c⟩:=Oe (by rw[KS];exact u) h
   grind [KS,nU]
theorem XA:∀{e:List (Int×Int)}{o:Fp}{f:Int->Int},(∀p∈e,p.1<o.length)->(∀p∈e,(p.1<0↔p.2<0))->dT f e->aD f o->TC e o≠W
 |[],_,_,_,_,_,_=>by simp[TC]|p::e,o,f,hi,F,ha,A=>by
  have B:=hi p (.head _);have s:=F p (.head _);have v:∀q∈e,q.1<o.length:=λq u=>hi q (v5 _ u);have w:∀q∈e,(q.1<0↔q.2<0):=λq u=>F q (v5 _ u);have z:dT f e:=λq u=>ha q (v5 _ u);rw[TC,ac (by simp[s])];by_cases C:p.1<0
  .rw[a6 C];exact XA v w z A
  .have D:f p.1=p.2:=ha p (.head _) U;have E:¬(0<=AA o p.1/\AA o p.1≠p.2):=λ⟨a,b⟩=>b (by rw[<-A p.1 U B a];exact D);rw[ac C,ac E];exact XA (by rw[KS];exact v) w z ((nU U B U E).2 ⟨D,A⟩)
def OU(f t l:Fp):Prop:=∀i:Int,0<=i->i<f.length->(AA f i<0↔AA t i<0)/\(0<=AA f i->AA l (AA f i)=AA t i)
def PQ(n:Nat)(f t:Fp):Option Fp:=TC (f.zip t) (y_ n (-1))
theorem O5{f t:Fp}(u:f.length=t.length){p:Int×Int}:p∈f.zip t↔∃i:Int,0<=i/\i<f.length/\p=(AA f i,AA t i):=by
 have e:∀i:Int,0<=i->i<f.length->AA (f.zip t) i=(AA f i,AA t i):=λi v i1=>by
  grind [E',AA,E!,w!]
 grind [Bh,AI]
theorem Ub{f t l:Fp}(v:f.length=t.length):OU f t l↔(∀p∈f.zip t,(p.1<0↔p.2<0))/\dT (AA l) (f.zip t):=by
 constructor
 .intro h;refine⟨λp e=>?_,λp e g=>?_⟩<;>obtain⟨i,u,i1,rfl⟩:=(O5 v).1 e
  .exact(h i u i1).1
  .exact(h i u i1).2 g
 .intro h i u i1;have e:=(O5 v).2 ⟨i,u,i1,rfl⟩;exact⟨h.1 _ e,h.2 _ e⟩
variable{n:Nat}
theorem ua{k v:Int}(e:0<=k)(f:k<n):AA (y_ n v) k=v:=by grind[AI]
theorem nT(f:Int->Int)(n:Nat):aD f (y_ n (-1)):=λk e u g=>by
 grind [A!,ua]
theorem T8{f t r l:Fp}(e:f.length=t.length)(hi:∀x∈f,x<n)(w:l.length=n)(h:PQ n f t=Y r):ce r l↔OU f t l:=by
 obtain ⟨a,b,c⟩:=Oe (λp u=>by obtain⟨i,v,i1,rfl⟩:=(O5 e).1 u;have:=hi _ (AI v i1);simpa using this) h
 grind [A!,Ub,AA,ce,aD,nT]
theorem nw{f t l:Fp}(e:f.length=t.length)(hi:∀x∈f,x<n)(h:PQ n f t=W):¬OU f t l:=λk=>
 XA (λp u=>by obtain⟨i,v,i1,rfl⟩:=(O5 e).1 u;have:=hi _ (AI v i1);simpa using this) ((Ub e).1 k).1 ((Ub e).1 k).2 (nT _ _) h
def Ga(x y:AF)(f t:d4):Option d4:=
 if x.dr.dl.length=y.dr.dl.length/\x.dr.d3.length=y.dr.d3.length then
  match PQ x.dr.dl.length f.dl t.dl,PQ x.dr.d3.length f.d3 t.d3 with
  |some ns,Y es=>Gb x y ns es x.dr.dl.length []|_,_=>W
 else W
structure Un(x:AF)(f t:d4):Prop where
 nl:f.dl.length=t.dl.length
 el:f.d3.length=t.d3.length
 nin:∀k∈f.dl,k<x.dr.dl.length
 ein:∀k∈f.d3,k<x.dr.d3.length
variable{x y:AF}
theorem T5{f t m:d4}(hi:Un x f t)(h:Ga x y f t=Y m):S7 x y m/\OU f.dl t.dl m.dl/\OU f.d3 t.d3 m.d3:=by
 unfold Ga at h;split at h
 case isFalse=>cases h
 rename_i e;split at h
 case h_2=>cases h
 rename_i ns es u v;obtain⟨a,b,c,d,_⟩:=TE _ _ _ V (λi B i1=>k!) h;obtain⟨w,z,A⟩:=(XE e.1 e.2).1 ⟨a,b,c,d⟩;exact⟨w,(T8 hi.nl hi.nin a u).1 z,(T8 hi.el hi.ein c v).1 A⟩
theorem qj{f t m:d4}(hi:Un x f t)(h:S7 x y m)(e:OU f.dl t.dl m.dl)(u:OU f.d3 t.d3 m.d3):Ga x y f t≠W:=by
 unfold Ga;rw[a6 ⟨h.nn,h.ee⟩];cases v:PQ x.dr.dl.length f.dl t.dl with
 |none=>exact absurd e (nw hi.nl hi.nin v)|some ns=>
 cases w:PQ x.dr.d3.length f.d3 t.d3 with
 |none=>exact absurd u (nw hi.el hi.ein w)|some es=>
 obtain ⟨a,b,c,d⟩:=(XE h.nn h.ee).2 ⟨h,(T8 hi.nl hi.nin h.nl v).2 e,(T8 hi.el hi.ein h.el w).2 u⟩;exact bL a b c d x.dr.dl.length 0 U
def PV(l:Fp):Fp:=(A3 l.length).map λj=>(fst (λi=>if AA l i=j then Y i else W) 0 l.length).getD 0
theorem V6(l:Fp):(PV l).length=l.length:=by unfold PV;rw[c9,A4]
variable{l:Fp}{j:Int}
theorem SD(nd:l.Nodup)(e:∀i:Int,0<=i->i<l.length->0<=AA l i/\AA l i<l.length)(f:0<=j)(u:j<l.length):(0<=AA (PV l) j/\AA (PV l) j<l.length)/\AA l (AA (PV l) j)=j:=by
 have A:j∈l:=nV nd rfl (λx w=>by obtain⟨i,z,i1,rfl⟩:=Bh w;exact e i z i1) f u;unfold PV;rw[D8 f (by rw[A4];exact u),QN _ f u];cases h:fst (λi=>if AA l i=j then Y i else W) 0 (l.length:Int)with
 |none=>
  grind [Bh,Bf]
 |some v=>
  grind [Cc]
variable{i:Int}
theorem xy(nd:l.Nodup)(f:0<=i)(i1:i<l.length)(z:0<=j)(u:j<l.length)(e:AA l i=AA l j):i=j:=by
 have w:∀{i j:Int},0<=i->i<j->j<l.length->AA l i=AA l j->False:=λ{i j}f v u e=>by
  have:=KU.1 nd j U u;rw[<-C?,CQ]at this;refine this ?_;rw[<-e,<-Sc.t5 f v]
  grind [AI,bk]
 grind
theorem ZQ(nd:l.Nodup)(e:∀i:Int,0<=i->i<l.length->0<=AA l i/\AA l i<l.length)(f:0<=i)(i1:i<l.length):AA (PV l) (AA l i)=i:=by
 obtain ⟨a,b⟩:=e i f i1;obtain⟨c,d⟩:=SD nd e a b
 grind [xy]
theorem oD(nd:l.Nodup)(f:∀i:Int,0<=i->i<l.length->0<=AA l i/\AA l i<l.length):(PV l).Nodup:=by
 refine KU.2 λi u i1=>?_;rw[<-C?,CQ];intro v;rw[V6]at i1;obtain⟨j,w,z,e⟩:=Bh v;rw[bk,V6]at z;rw[Sc.t5 w U]at e;have A:=(SD nd f u i1).2
 grind [SD]
def ACj(m:d4):d4:=⟨PV m.dl,PV m.d3⟩
variable{m:d4}
theorem uy(h:S7 x y m)(ends:PO x):S7 y x (ACj m):=by
 have l1:=h.nl;have l2:=h.el;have v:=h.nn;have w:=h.ee;have f:∀i:Int,0<=i->i<m.dl.length->0<=AA m.dl i/\AA m.dl i<m.dl.length:=λi e i1=>by have:=h.nin i e U;omega
 have u:∀i:Int,0<=i->i<m.d3.length->0<=AA m.d3 i/\AA m.d3 i<m.d3.length:=λi e i1=>by have:=h.ein i e U;omega
 refine ⟨by rw[<-v,<-l1];exact V6 _,by rw[<-w,<-l2];exact V6 _,v.symm,w.symm,λi e i1=>?_,λi e i1=>?_,oD h.nd f,oD h.ed u,λi e i1=>?_,λi e i1=>?_⟩
 .have:=(SD h.nd f e U).1;rw[<-l1];exact this
 .have:=(SD h.ed u e U).1;rw[<-l2];exact this
 .obtain⟨a,b⟩:=SD h.nd f e U;obtain⟨c,d⟩:=h.node _ a.1 U;rw[b]at c d;exact⟨c.symm,d.symm⟩
 .obtain⟨a,b⟩:=SD h.ed u e U;have c:=h.edge _ a.1 U;obtain⟨⟨z,B⟩,A,C⟩:=ends _ (AI (l:=x.dr.d3) a.1 U);show AA x.dr.d3 (AA (PV m.d3) i)=⟨_,AA (PV m.dl) _,AA (PV m.dl) _⟩;rw[b]at c;rw[c];dsimp only;rw[ZQ h.nd f z U,ZQ h.nd f A U]
theorem iD{f t l:Fp}(v:f.length=t.length)(nd:l.Nodup)(e:∀i:Int,0<=i->i<l.length->0<=AA l i/\AA l i<l.length)(hf:∀x∈f,x<l.length)(h:OU f t l):OU t f (PV l):=λi u i1=>by
 obtain ⟨a,b⟩:=h i u U
 grind [AI,ZQ]
theorem nv{f t:d4}(hi:Un x f t)(A:Un y t f)(B:PO x)(F:PO y):(Ga x y f t).isSome=(Ga y x t f).isSome:=by
 have C:∀{x y:AF}{f t:d4},Un x f t->Un y t f->PO x->(Ga x y f t).isSome=X->(Ga y x t f).isSome=X:=λ{x y f t}hi A B h=>by
  obtain ⟨m,e⟩:=Option.isSome_iff_exists.1 h;obtain⟨u,D,E⟩:=T5 hi e;have l1:=u.nl;have l2:=u.el;have G:=u.nn;have H:=u.ee;refine Option.isSome_iff_ne_none.2 (qj A (uy u B) (iD hi.nl u.nd (λi v i1=>?_) (λz w=>?_) D) (iD hi.el u.ed (λi v i1=>?_) (λz w=>?_) E))
  .have:=u.nin i v U;omega
  .have:=hi.nin z w;omega
  .have:=u.ein i v U;omega
  .have:=hi.ein z w;omega
 rw [Bool.eq_iff_iff]
 grind
end Go.Sf.Sc
namespace Go.Sf
def FP{α σ:Type}(g:α->σ->Option σ):List α->σ->Option σ
 |[],s=>Y s|x::l,s=>(g x s).bind (FP g l)
variable{α σ:Type}{g:α->σ->Option σ}
theorem ai:∀{a b:List α}{s:σ},FP g (a++b) s=(FP g a s).bind (FP g b)
 |[],_,_=>rfl|x::a,b,s=>by
  rw [List.cons_append,FP,FP];cases g x s with
  |none=>rfl|some v=>exact ai (a:=a)
theorem VD{I:σ->Prop}:∀{l:List α}{s r:σ},(∀x∈l,∀s s',I s->g x s=Y s'->I s')->I s->FP g l s=Y r->I r
 |[],s,r,_,h,e=>by cases e;exact h
 |x::l,s,r,u,h,e=>by
  rw [FP]at e;cases f:g x s with
  |none=>rw[f]at e;cases e
  |some v=>
   rw [f]at e;exact VD (λy w=>u y (v5 _ w)) (u x (.head _) s v h f) e
def W5{σ ρ:Type}(e:ρ):Option σ->CF σ ρ
 |some s=>.next s|none=>.ret e
def Z8{σ ρ:Type}(e:ρ):Option σ->σ ⊕ ρ
 |some s=>.inl s|none=>.inr e
variable{σ' ρ:Type}
theorem Wc[Inhabited α]{f:Int->σ->Option (CF σ ρ)}{l:List α}(enc:σ'->σ)(g:α->σ'->Option σ')(e:ρ)(I:Int->σ'->Prop)(h:∀(i:Int)s,0<=i->i<l.length->I i s->f i (enc s)=Y (W5 e ((g (AA l i) s).map enc))/\∀s',g (AA l i) s=Y s'->I (i+1) s'):
  ∀(n:Nat)(a:Int)(s:σ'),0<=a->a+n=l.length->I a s->tl f n a (enc s)=Y (Z8 e ((FP g (l.drop a.toNat) s).map enc))
 |0,a,s,a0,A,_=>by
  rw [List.drop_eq_nil_of_le U];rfl
 |n+1,a,s,a0,A,B=>by
  obtain ⟨w,z⟩:=h a s a0 U B;have hd:l.drop a.toNat=AA l a::l.drop (a+1).toNat:=by
   rw [List.drop_eq_getElem_cons U,show(a+1).toNat=a.toNat+1 by omega];congr 1;unfold AA;rw[x_,w! U];rfl
  rw [Ew,w,hd,FP];cases u:g (AA l a) s with
  |none=>rfl|some v=>exact Wc enc g e I h n (a+1) v U U (z v u)
theorem PS[Inhabited α]{f:Int->σ->Option (CF σ ρ)}{l:List α}(enc:σ'->σ)(g:α->σ'->Option σ')(e:ρ)(I:Int->σ'->Prop){s:σ'}{v:σ}(u:v=enc s){n:Int}(w:n=l.length)(h0:I 0 s)(h:∀(i:Int)s,0<=i->i<l.length->I i s->f i (enc s)=Y (W5 e ((g (AA l i) s).map enc))/\∀s',g (AA l i) s=Y s'->I (i+1) s'):gt f 0 n v=Y (Z8 e ((FP g l s).map enc)):=by
 subst u w;have:=Wc enc g e I h l.length 0 s U U h0;unfold gt;simpa using this
theorem YC[Inhabited α]{f:Int->σ->Option (CF σ ρ)}{l:List α}(g:α->σ->Option σ)(e:ρ)(I:σ->Prop){s:σ}(h0:I s)(h:∀(i:Int)s,0<=i->i<l.length->I s->f i s=Y (W5 e (g (AA l i) s))/\∀s',g (AA l i) s=Y s'->I s'):gt f 0 l.length s=Y (Z8 e (FP g l s)):=by
 have:=PS (n:=l.length) (λs=>s) g e (λ_=>I) rfl rfl h0 (λi s u i1 v=>by simpa using h i s u i1 v);simpa using this
end Go.Sf
namespace Go.Sf.Sc
open Go Go.Sf
theorem ii{l a b:Fp}(h:∀x∈l,x<a.length):Cf (Cf l a) b=Cf l (Cf a b):=by grind[Cf,List.map_map,A?,D8]
theorem nG{l a b:d4}(e:∀x∈l.dl,x<a.dl.length)(f:∀x∈l.d3,x<a.d3.length):DE (DE l a) b=DE l (DE a b):=by grind[DE,ii]
structure CP where
 gx:List DA
 kp:AF
 ll:d4
instance:Inhabited CP:=⟨⟨[],⟨⟨[],[]⟩,[]⟩,⟨[],[]⟩⟩⟩
noncomputable def OG(t:AC)(rules:List eh)(p:CP)(mv:DA):AR:=(Ef t (AA rules mv.eh) p.kp mv.j0).1
noncomputable def Pc(t:AC)(rules:List eh)(p:CP)(mv:DA):CP:=⟨p.gx++[mv],(OG t rules p mv).ex,DE p.ll (OG t rules p mv).kl⟩
def PY(p q:CP):Bool:=(Ga p.kp q.kp p.ll q.ll).isSome
noncomputable def Oc(t:AC)(rules:List eh)(p:CP)(mv:DA)(l:List CP):Option (List CP):=
 if 8<(OG t rules p mv).ex.dr.dl.length then W
 else if l.any (λq=>PY q (Pc t rules p mv))=X then Y l
 else if l.length=300 then W else Y (l++[Pc t rules p mv])
noncomputable def G8(t:AC)(rules:List eh)(h:AF)(i:Int):List DA:=(GV t (AA rules i) h).1.map (DA.mk i)
noncomputable def X0(t:AC)(rules:List eh)(h:AF):Bool:=(A3 rules.length).all λi=>decide ((GV t (AA rules i) h).2=0)
noncomputable def PU(t:AC)(rules:List eh)(p:CP)(l:List CP):Option (List CP):=
 if X0 t rules p.kp=X then FP (Oc t rules p) ((A3 rules.length).flatMap (G8 t rules p.kp)) l else W
variable{p:CP}
theorem YN{t:AC}{rules:List eh}:∀{is:Fp}{l:List CP},
  FP (λi l=>if(GV t (AA rules i) p.kp).2=0 then FP (Oc t rules p) (G8 t rules p.kp i) l else W) is l=if is.all (λi=>decide ((GV t (AA rules i) p.kp).2=0))=X then FP (Oc t rules p) (is.flatMap (G8 t rules p.kp)) l else W
 |[],l=>rfl|i::is,l=>by
  rw [FP,B_,B',ai];by_cases e:(GV t (AA rules i) p.kp).2=0
  .rw[a6 e,decide_eq_true e,D'];cases h:FP (Oc t rules p) (G8 t rules p.kp i) l with
   |none=>
    rw [Option.bind_none,Option.bind_none];split<;>rfl
   |some v=>exact YN
  grind
noncomputable def ML(t:AC)(rules:List eh)(depth:Int):Nat->Int->List CP->Option (List CP)
 |0,_,l=>Y l|k+1,i,l=>if i<l.length then(if((AA l i).gx.length:Int)=depth then ML t rules depth k (i+1) l else(PU t rules (AA l i) l).bind (ML t rules depth k (i+1)))else Y l
noncomputable def dK(t:AC)(rules:List eh)(depth:Int)(p:CP):Option (List CP):=ML t rules depth 301 0 [p]
structure JH(t:AC)(rules:List eh)(h0:AF)(m0:d4)(p:CP):Prop where
 rep:O7 t rules ⟨h0,p.gx⟩
 kp:p.kp=(Em t rules h0 p.gx).2
 ll:p.ll=DE m0 (MN (P5 h0.dr) (Em t rules h0 p.gx).1)
 few:p.gx.length<=5
theorem qh(m:d4)(l:List AR)(s:AR):MN m (l++[s])=DE (MN m l) s.kl:=by
 unfold MN
 grind
theorem YJ{t:AC}(hf:A0 t){rules:List eh}(hr:Eu rules){h0:AF}{m0:d4}(f:IY m0 h0.dr)(g:JH t rules h0 m0 p):
  DN p.kp/\IY (MN (P5 h0.dr) (Em t rules h0 p.gx).1) p.kp.dr/\IY p.ll p.kp.dr/\(ER t p.kp).2=0/\p.ll.dl.length=m0.dl.length/\p.ll.d3.length=m0.d3.length:=by
 obtain ⟨v,e⟩:=Q4 hf hr g.rep p.gx.length (ae _);have c3:=af hf hr g.rep p.gx.length (ae _);rw[y!]at v e c3;have w:=T4 (Em t rules h0 p.gx).1 (P5 h0.dr);have l1:(MN (P5 h0.dr) (Em t rules h0 p.gx).1).dl.length=h0.dr.dl.length:=by rw[w.1];exact A4 _
 have l2:(MN (P5 h0.dr) (Em t rules h0 p.gx).1).d3.length=h0.dr.d3.length:=by rw[w.2];exact A4 _
 rw [<-g.kp]at v e c3;refine⟨v,e,?_,c3,by rw[g.ll];exact FI _ _,by rw[g.ll];exact FI _ _⟩;rw[g.ll];refine⟨by show(Cf _ _).length<=1000;rw[FI];exact f.t2,by show(Cf _ _).length<=1000;rw[FI];exact f.wi,?_,?_⟩
 .exact Mj (λy u=>by rw[l1];exact f.node y u) e.node
 .exact Mj (λy u=>by rw[l2];exact f.edge y u) e.edge
variable{mv:DA}
theorem VL{t:AC}(hf:A0 t){rules:List eh}(hr:Eu rules){h0:AF}{m0:d4}(v:IY m0 h0.dr)(g:JH t rules h0 m0 p)(e:(Ez t rules p.kp mv).2=0)(B:p.gx.length<5):JH t rules h0 m0 (Pc t rules p mv)/\JI p.kp (OG t rules p mv)/\Ez t rules p.kp mv=(OG t rules p mv,0)/\(OG t rules p mv).j0=mv.j0:=by
 obtain ⟨a,s,A⟩:=Rw hf hr e;have ha:OG t rules p mv=Ui t (AA rules mv.eh) p.kp mv.j0:=by
  grind [Ez,Ef,AA,OG]
 have w:Ez t rules p.kp mv=(OG t rules p mv,0):=by rw[ha];exact A
 have tk:JI p.kp (OG t rules p mv):=by rw[ha];exact s.trk
 have z:(Em t rules h0 (p.gx++[mv]))=((Em t rules h0 p.gx).1++[OG t rules p mv],(OG t rules p mv).ex):=by
  rw [Ol,<-g.kp,w]
 have f:=T4 (Em t rules h0 p.gx).1 (P5 h0.dr);refine⟨⟨uZ g.rep (by show p.gx.length<30;omega) (by show(Ez t rules (Em t rules h0 p.gx).2 mv).2=0;rw[<-g.kp];exact e),?_,?_,by show(p.gx++[mv]).length<=5;simp;omega⟩,tk,w,by rw[ha];rfl⟩
 .show(OG t rules p mv).ex=(Em t rules h0 (p.gx++[mv])).2;rw[z]
 .show DE p.ll (OG t rules p mv).kl=DE m0 (MN _ (Em t rules h0 (p.gx++[mv])).1);rw[z,g.ll,qh,nG]
  .intro x u;rw[f.1];show x<(A3 _).length;rw[A4];exact(v.node x u).2
  .intro x u;rw[f.2];show x<(A3 _).length;rw[A4];exact(v.edge x u).2
end Go.Sf.Sc
namespace Go.Sf.Sc
open Go Go.Sf
structure JZ(t:AC)(rules:List eh)(h0:AF)(m0:d4)(depth i:Int)(l:List CP):Prop where
 good:∀p∈l,JH t rules h0 m0 p/\(p.gx.length:Int)<=depth
 few:l.length<=300
 mono:∀a b:Int,0<=a->a<=b->b<l.length->(AA l a).gx.length<=(AA l b).gx.length
 next:i<l.length->∀q∈l,q.gx.length<=(AA l i).gx.length+1
section
variable{t:AC}{rules:List eh}{h0:AF}{m0:d4}{depth:Int}
variable{h:AF}{mv:DA}{i:Int}
theorem Ue(f:0<=i)(i1:i<rules.length)(e:mv∈G8 t rules h i):(Ez t rules h mv).2=0:=by
 obtain ⟨x,u,rfl⟩:=v?.1 e
 grind [Ez,xR]
theorem aG(e:mv∈(A3 rules.length).flatMap (G8 t rules h)):(Ez t rules h mv).2=0:=by grind[Dx,Ue]
def Q8(t:AC)(rules:List eh)(h0:AF)(m0:d4)(p:CP)(l s:List CP):Prop:=∃ext,s=l++ext/\s.length<=300/\∀q∈ext,JH t rules h0 m0 q/\q.gx.length=p.gx.length+1
variable{p:CP}
theorem Vz(hf:A0 t)(hr:Eu rules)(A:IY m0 h0.dr)(g:JH t rules h0 m0 p)(B:p.gx.length<5)(e:(Ez t rules p.kp mv).2=0){l s s':List CP}(h:Q8 t rules h0 m0 p l s)(f:Oc t rules p mv s=Y s'):Q8 t rules h0 m0 p l s':=by
 obtain ⟨ext,rfl,w,z⟩:=h;unfold Oc at f;split at f
 .cases f
 split at f
 .cases f;exact⟨ext,rfl,w,z⟩
 split at f
 .cases f
 .rename_i v;cases f;have C:=(VL hf hr A g e B).1;rw[az]at w;simp only[az]at v;refine⟨ext++[Pc t rules p mv],by rw[ci],a_,λq u=>?_⟩;rcases v!.1 u with u|u
  .exact z q u
  .obtain rfl:=z?.1 u;exact⟨C,by show(p.gx++[mv]).length=_;simp⟩
theorem eW(hf:A0 t)(hr:Eu rules)(u:IY m0 h0.dr)(g:JH t rules h0 m0 p)(v:p.gx.length<5){l s:List CP}(w:l.length<=300)(h:PU t rules p l=Y s):Q8 t rules h0 m0 p l s:=by
 unfold PU at h;split at h
 .exact VD (I:=Q8 t rules h0 m0 p l) (λmv f s s' z e=>Vz hf hr u g v (aG f) z e) ⟨[],V,w,λq A=>by cases A⟩ h
 .cases h
theorem dg(hf:A0 t)(hr:Eu rules)(B:IY m0 h0.dr)(hd:depth<=4){l v:List CP}(h:JZ t rules h0 m0 depth i l)(w:0<=i)(i1:i<l.length)(C:((AA l i).gx.length:Int)≠depth)(e:PU t rules (AA l i) l=Y v):JZ t rules h0 m0 depth (i+1) v:=by
 obtain ⟨F,M⟩:=h.good _ (AI w i1);obtain⟨ext,rfl,G,H⟩:=eW hf hr B F U h.few e;have z:∀q∈l++ext,q.gx.length<=(AA l i).gx.length+1:=λq f=>by
  rcases v!.1 f with f|f
  .exact h.next i1 q f
  grind
 have mono:∀a b:Int,0<=a->a<=b->b<(l++ext).length->(AA (l++ext) a).gx.length<=(AA (l++ext) b).gx.length:=λa b a0 D E=>by
  by_cases A:b<l.length
  .rw[Ru a0 U,Ru U A];exact h.mono a b a0 D A
  .have:AA (l++ext) b∈ext:=by
    obtain ⟨n,rfl⟩:=E' (show 0<=b by omega);rw[az]at E;have I:=nX (l:=l) (m:=ext) (n:=n-l.length)
    grind [AI]
   rw [(H _ this).2];exact z _ (AI a0 U)
 refine ⟨λp u=>?_,G,mono,λk q f=>?_⟩
 .rcases v!.1 u with u|u
  .exact h.good p u
  grind
 .have J:=z q f;have K:=mono i (i+1) w U k
  grind [Ru]
theorem Ww{l:List CP}(h:JZ t rules h0 m0 depth i l)(e:0<=i)(i1:i<l.length):JZ t rules h0 m0 depth (i+1) l:=⟨h.good,h.few,h.mono,λk q f=>by
 have u:=h.next i1 q f
 have v:=h.mono i (i+1) e U k;omega⟩
theorem jX:∀(k:Nat)(i:Int)(l:List CP),0<=i->JZ t rules h0 m0 depth i l->(i<l.length->((AA l i).gx.length:Int)=depth)->ML t rules depth k i l=Y l
 |0,_,_,_,_,_=>rfl|k+1,i,l,e,h,he=>by
  rw [ML];by_cases i1:i<l.length
  .rw[a6 i1,a6 (he i1)];refine jX k (i+1) l U (Ww h e i1) λi2=>?_;have f:=he i1;have u:=h.mono i (i+1) e U i2;have v:=(h.good _ (AI (i:=i+1) U i2)).2;omega
  .rw[ac i1]
variable{β ρ:Type}
theorem iZ(hf:A0 t)(hr:Eu rules)(z:IY m0 h0.dr)(hd:depth<=4){f:List β×Int->Option (CF (List β×Int) ρ)}(enc:List CP->List β)(e:ρ)
  (A:∀i l,0<=i->JZ t rules h0 m0 depth i l->i<l.length->((AA l i).gx.length:Int)≠depth->f (enc l,i)=Y (match PU t rules (AA l i) l with|some F=>.next (enc F,i+1)|none=>.ret e))
  (B:∀i l,0<=i->JZ t rules h0 m0 depth i l->i<l.length->((AA l i).gx.length:Int)=depth->f (enc l,i)=Y (.brk (enc l,i))\/f (enc l,i)=Y (.next (enc l,i+1)))
  (w:∀i l,0<=i->JZ t rules h0 m0 depth i l->(l.length:Int)<=i->f (enc l,i)=Y (.brk (enc l,i))):
  ∀(k:Nat)(i:Int)(l:List CP),0<=i->JZ t rules h0 m0 depth i l->301<=i+k->∃o,MJ f (enc l,i) o/\match ML t rules depth k i l with|some r=>∃j,o=.inl (enc r,j)|none=>o=.inr e
 |0,i,l,v,h,G=>⟨_,.brk (w i l v h (by have:=h.few;omega)),_,rfl⟩|k+1,i,l,v,h,G=>by
  by_cases i1:i<l.length
  case neg=>
   rw [ML,ac i1];exact⟨_,.brk (w i l v h U),_,rfl⟩
  by_cases ed:((AA l i).gx.length:Int)=depth
  .rcases B i l v h i1 ed with u|u
   .rw[jX (k+1) i l v h λ_=>ed];exact⟨_,.brk u,_,rfl⟩
   .rw[ML,a6 i1,a6 ed];obtain⟨o,D,E⟩:=iZ hf hr z hd enc e A B w k (i+1) l U (Ww h v i1) U;exact⟨o,.next u D,E⟩
  .have u:=A i l v h i1 ed;rw[ML,a6 i1,ac ed];cases C:PU t rules (AA l i) l with
   |none=>
    rw [C]at u;exact⟨_,.ret u,rfl⟩
   |some F=>
    rw [C]at u;obtain⟨o,D,E⟩:=iZ hf hr z hd enc e A B w k (i+1) F U (dg hf hr z hd h v i1 ed C) U;exact⟨o,.next u D,E⟩
theorem Tv(hf:A0 t)(hr:Eu rules)(f:IY m0 h0.dr)(hd:depth<=4):∀(k:Nat)(i:Int)(l r:List CP),0<=i->JZ t rules h0 m0 depth i l->ML t rules depth k i l=Y r->(∃j,JZ t rules h0 m0 depth j r)/\∃ext,r=l++ext
 |0,i,l,r,v,h,e=>by cases e;exact⟨⟨_,h⟩,[],V⟩
 |k+1,i,l,r,v,h,e=>by
  rw [ML]at e;split at e
  case isFalse=>cases e;exact⟨⟨_,h⟩,[],V⟩
  rename_i i1;split at e
  .exact Tv hf hr f hd k _ l r U (Ww h v i1) e
  .rename_i ed;cases u:PU t rules (AA l i) l with
   |none=>rw[u]at e;cases e
   |some A=>
    rw [u]at e;obtain⟨a,ext,rfl⟩:=Tv hf hr f hd k _ A r U (dg hf hr f hd h v i1 ed u) e;obtain⟨z,B⟩:=h.good _ (AI v i1);obtain⟨w,rfl,_⟩:=eW hf hr f z U h.few u
    grind
theorem RX(hf:A0 t)(hr:Eu rules)(v:G3 t rules h0=0)(u:IY m0 h0.dr)(hd:0<=depth):JZ t rules h0 m0 depth 0 [⟨[],h0,m0⟩]:=by
 have f:DE m0 (P5 h0.dr)=m0:=by
  have e:∀{l:Fp}{n:Nat},(∀x∈l,-1<=x/\x<n)->Cf l (A3 n)=l:=λ{l n}h=>by
   unfold Cf
   conv=>rhs;rw[<-x? l]
   grind [A?,QN]
  unfold DE P5;rw[e u.node,e u.edge]
 refine ⟨λp w=>?_,V,λa b a0 z A=>?_,λ_ q B=>?_⟩
 .obtain rfl:=z?.1 w;exact⟨⟨⟨v,V,λi C i1=>k!⟩,rfl,f.symm,V⟩,by simpa using hd⟩
 .grind
 grind
end
end Go.Sf.Sc
namespace Go.Sf.Sc
open Go Go.Sf
def Aai(m:d4):Bool:=hasB m.dl (-1)||hasB m.d3 (-1)
def Rb(strict:Bool)(p q:CP):Option d4:=
 if strict=X then(if(Aai p.ll||Aai q.ll)=X then W else Ga p.kp q.kp p.ll q.ll)else Ga p.kp q.kp ⟨[],[]⟩ ⟨[],[]⟩
def QZ(strict:Bool)(L R:List CP)(s i k:Int):Option (CP×CP×d4):=
 if ((AA L i).gx.length:Int)+(AA R k).gx.length=s then(Rb strict (AA L i) (AA R k)).map λm=>(AA L i,AA R k,m)else W
def TH(strict:Bool)(L R:List CP)(s:Int):Option (CP×CP×d4):=fst (λi=>fst (QZ strict L R s i) 0 R.length) 0 L.length
def Yr(strict:Bool)(L R:List CP)(depth:Int):Option (CP×CP×d4):=fst (TH strict L R) 0 (2*depth+1)
variable{L R:List CP}
theorem oi{strict:Bool}{s i k:Int}{r:CP×CP×d4}(h:QZ strict L R s i k=Y r):(r.1.gx.length:Int)+r.2.1.gx.length=s/\Rb strict r.1 r.2.1=Y r.2.2/\r.1=AA L i/\r.2.1=AA R k:=by
 unfold QZ at h;split at h
 .rename_i e;cases f:Rb strict (AA L i) (AA R k)with
  |none=>rw[f]at h;cases h
  |some m=>
   grind
 .cases h
theorem tM{strict:Bool}{s:Int}{r:CP×CP×d4}(h:TH strict L R s=Y r):(r.1.gx.length:Int)+r.2.1.gx.length=s/\Rb strict r.1 r.2.1=Y r.2.2/\r.1∈L/\r.2.1∈R:=by
 obtain ⟨i,u,i1,e,_⟩:=Cc h;obtain⟨k,v,w,f,_⟩:=Cc e;obtain⟨a,b,c,d⟩:=oi f
 grind [AI]
theorem eY(x:AF):Un x ⟨[],[]⟩ ⟨[],[]⟩:=⟨rfl,rfl,V,V⟩
variable{x y:AF}{m:d4}
theorem jw(h:S7 x y m)(u:DN x)(sy:DN y)(xv:x.eb.length=x.dr.dl.length)(yv:y.eb.length=y.dr.dl.length)(ends:PO x):Tl x y m/\x.dr.dl.length=y.dr.dl.length/\x.dr.d3.length=y.dr.d3.length/\qy x y m 0:=by
 have l1:=h.nl;have l2:=h.el;have v:=u.ea;have w:=u.eg;have z:=sy.ea;have A:=sy.eg;refine⟨⟨l1,l2,U,U,U,U,xv,yv,ends,λk f=>?_,λk f=>?_⟩,h.nn,h.ee,λi e i1=>?_,λi e i1=>?_⟩
 .obtain⟨i,e,i1,rfl⟩:=Bh f;exact h.nin i e U
 .obtain⟨i,e,i1,rfl⟩:=Bh f;exact h.ein i e U
 .unfold RK;obtain⟨a,b⟩:=h.node i e i1;rw[bC h ends e i1,KU.1 h.nd i e U,decide_eq_true a,decide_eq_true b];rfl
 .unfold RI;rw[KU.1 h.ed i e U,decide_eq_true (h.edge i e i1)];rfl
variable{p:CP}
theorem aa{t:AC}{rules:List eh}{h0:AF}{m0:d4}(g:JH t rules h0 m0 p):JN t rules ⟨h0,p.gx⟩=(p.kp,MN (P5 h0.dr) (Em t rules h0 p.gx).1,0):=by
 unfold JN;rw[ac (by rw[Y2.2 g.rep];simp)];rw[g.kp]
theorem Yz{f t l:Fp}(u:f.length=t.length)(v:∀x∈f,0<=x)(h:OU f t l):Cf f l=t:=by
 refine Xv (by rw[FI];exact u) λi e i1=>?_;rw[FI]at i1;unfold Cf;have:=v _ (AI e i1);rw[D8 e i1,ac U];exact(h i e i1).2 this
variable{l:Fp}{n:Nat}
theorem bM(h:∀x∈l,-1<=x/\x<n)(f:hasB l (-1)=T):∀x∈l,0<=x:=λx u=>by
 have:=h x u;have v:x≠-1:=λe=>by
  rw [<-C?,CQ]at f;exact f (e▸u)
 omega
end Go.Sf.Sc
namespace Go.Sf
variable{σ ρ:Type}
theorem b9{f:σ×Int->Option (CF (σ×Int) ρ)}(s:σ)(d:Int->Option σ){a b:Int}(z:a<=b)(h:∀i,a<=i->i<b->f (s,i)=Y (.next ((d i).getD s,i+1)))
  (hr:∀i r j,d i=Y r->f (r,j)=Y (.brk (r,j)))(hb:f (s,b)=Y (.brk (s,b))):∃j,D5 f (s,a)=Y (.inl ((fst d a b).getD s,j)):=by
 have u:∀(n:Nat)(a':Int),a<=a'->a'+n=b->∃j,MJ f (s,a') (.inl ((Ec d n a').getD s,j)):=by
  intro n
  induction n with
  |zero=>
   intro a' _ e;obtain rfl:a'=b:=U
   exact ⟨_,.brk hb⟩
  |succ n A=>
   intro a' ha e;have k:=h a' ha U;rw[Ec];cases v:d a' with
   |none=>
    rw [v]at k;obtain⟨j,w⟩:=A (a'+1) U U;exact⟨j,.next k w⟩
   |some r=>
    rw [v]at k;exact⟨_,.next k (.brk (hr a' r _ v))⟩
 obtain ⟨j,w⟩:=u (b-a).toNat a (Int.le_refl a) U;exact⟨j,w.eq⟩
end Go.Sf
namespace Go.Sf.Sc
open Go Go.Sf
theorem LM{b c:Bool}{o:K1}(h:b=X->o=Y c):(if b=X then o else Y T)=Y (b&&c):=l?
theorem Iq{b c:Bool}{o:K1}(h:b=T->o=Y c):(if b=X then Y X else o)=Y (b||c):=l?
def RB(p:Int×Int)(o:Fp):Option Fp:=if decide (p.1<0)≠decide (p.2<0)then W else if p.1<0 then Y o else if 0<=AA o p.1/\AA o p.1≠p.2 then W else Y (BR o p.1 p.2)
theorem T7:∀{e:List (Int×Int)}{o:Fp},TC e o=FP RB e o
 |[],o=>rfl|p::e,o=>by
  rw [TC,FP];unfold RB;split
  .rfl
  split
  .exact T7
  split
  .rfl
  .exact T7
def Yp(o:Option Fp):Fp×Bool:=match o with
 |some r=>(r,X)|none=>([],T)
theorem jr{o:Option Fp}:ei (Y (Z8 (ρ:=Fp×Bool) ([],T) o)) (λe=>Y (e,X)) (λf=>Y f)=Y (Yp o):=by cases o<;>rfl
variable{i:Int}
theorem lJ{f t:Fp}(e:f.length=t.length)(u:0<=i)(i1:i<f.length):AA (f.zip t) i=(AA f i,AA t i):=by grind[E',AA,E!,w!]
section
variable{a b:Int}{o:Fp}
theorem tu(h:¬decide (a<0)=decide (b<0)):RB (a,b) o=W:=by unfold RB;rw[a6 h]
theorem tw(h:decide (a<0)=decide (b<0))(e:a<0):RB (a,b) o=Y o:=by grind[RB]
theorem tz(h:decide (a<0)=decide (b<0))(e:¬a<0)(f:0<=AA o a/\AA o a≠b):RB (a,b) o=W:=by grind[RB]
theorem t6(h:decide (a<0)=decide (b<0))(e:¬a<0)(f:¬(0<=AA o a/\AA o a≠b)):RB (a,b) o=Y (BR o a b):=by grind[RB]
end
variable{n:Nat}
theorem fv(B:n<=1000){f t:Fp}(z:f.length=t.length)(hi:∀x∈f,x<n):Jm n f t=Y (Yp (PQ n f t)):=by
 unfold Jm DM PQ;have A:(f.length:Int)=(f.zip t).length:=by simp[z]
 rw [a6 ⟨rfl,U,U⟩,bs,T7,A,<-jr,YC RB ([],T) (λo=>o.length=n) V]
 .simp
 intro i o v i1 ho;have i2:i<f.length:=U
 have C:=hi _ (AI v i2);rw[lJ z v i2,AD v i2,bs,AD v U,bs];by_cases e:decide (AA f i<0)=decide (AA t i<0)
 case neg=>rw[tu e,a6 d_];exact⟨rfl,λs' h=>c_⟩
 rw [ac d_];by_cases u:AA f i<0
 .rw[tw e u,a6 g_];exact⟨rfl,λs' h=>by cases h;exact ho⟩
 rw [ac g_,AD U U];simp only[bs];rw[LM (λ_=>rfl),bs];by_cases w:0<=AA o (AA f i)/\AA o (AA f i)≠AA t i
 .rw[tz e u w,a6 n!];exact⟨rfl,λs' h=>c_⟩
 .rw[t6 e u w,ac n!];exact⟨rfl,λs' h=>by cases h;rw[KS];exact ho⟩
theorem gW(D:n<=1000){f t:Fp}(z:f.length=t.length)(hi:∀x∈f,x<n):MC f t n=Y (Yp (PQ n f t)):=by
 unfold MC PQ;have A:(f.length:Int)=(f.zip t).length:=by simp[z]
 have B:Hv (n:Int) (0:Int)=Y (y_ n 0):=by
  unfold Hv;rw[a6 U];rfl
 rw [B,bs,By (λi=>y_ i.toNat (-1:Int)++y_ (n-i.toNat) 0) U V]
 .rw[bs,E!,Nat.sub_self,List.replicate_zero,List.append_nil,T7,A,<-jr,YC RB ([],T) (λo=>o.length=n) V];intro i o e i1 ho;have i2:i<f.length:=U
  have E:=hi _ (AI e i2);rw[lJ z e i2,AD e i2,bs,AD e U,bs,bs];by_cases u:decide (AA f i<0)=decide (AA t i<0)
  case neg=>rw[tu u,a6 g_,bs,a6 rfl];exact⟨rfl,λs' h=>c_⟩
  rw [ac g_];by_cases w:AA f i<0
  .rw[tw u w,ac a_,bs,ac a!,bs,bs,ac a!,bs,ac a_];exact⟨rfl,λs' h=>by cases h;exact ho⟩
  have C:decide (0<=AA f i)=X:=a_
  simp only[bs,C,if_true];rw[AD (l:=o) (i:=AA f i) U U];simp only[bs];rw[LM (λ_=>rfl)];simp only[bs];by_cases v:0<=AA o (AA f i)/\AA o (AA f i)≠AA t i
  .rw[tz u w v,a6 (by simpa using v)];exact⟨rfl,λs' h=>c_⟩
  .rw[t6 u w v,ac (by simpa using v)];exact⟨rfl,λs' h=>by cases h;rw[KS];exact ho⟩
 .intro i e i1;rw[AD e a_,bs,Xb e U]
end Go.Sf.Sc
namespace Go.Sf.Sc
open Go Go.Sf
structure ZB(x y:AF)(ns es:Fp):Prop where
 nl:ns.length=x.dr.dl.length
 el:es.length=x.dr.d3.length
 xn:x.dr.dl.length<=1000
 xe:x.dr.d3.length<=1000
 yn:y.dr.dl.length<=1000
 ye:y.dr.d3.length<=1000
 xv:x.eb.length=x.dr.dl.length
 yv:y.eb.length=y.dr.dl.length
 ends:PO x
def iB(x y:AF)(ns es mn me:Fp)(o:Option Fp):Bool×Bg:=match o with
 |some r=>(X,⟨x,y,ns,es,⟨mn,r⟩⟩)|none=>(T,⟨x,y,ns,es,⟨mn,me⟩⟩)
variable{x y:AF}
theorem fo{ns es mn:Fp}(h:ZB x y ns es)(v:mn.length=x.dr.dl.length):∀(k:Nat)(me:Fp),me.length+k=x.dr.d3.length->∀n,k<n->Bz n ⟨x,y,ns,es,⟨mn,me⟩⟩=Y (iB x y ns es mn me (EO x y es mn k me))
 |0,me,A,n,B=>by
  obtain ⟨n,rfl⟩:∃q,n=q+1:=⟨n-1,U⟩;rw[Bz,a6 a_];rfl
 |k+1,me,A,n,B=>by
  obtain ⟨n,rfl⟩:∃q,n=q+1:=⟨n-1,U⟩;have C:=h.el;have D:=h.xe;have E:=h.ye;have u:=h.ends _ (AI (l:=x.dr.d3) (i:=(me.length:Int)) U U);rw[Bz];dsimp only;rw[ac a_,AD U U,bs,AD u.1.1 U,bs,AD u.2.1 U,bs,
   EY (a:=0) (b:=(y.dr.d3.length:Int)) (λ_=>(⟨x,y,ns,es,⟨mn,me⟩⟩:Bg)) (λj=>(if MO x y es mn me me.length j=X then EO x y es mn k (me++[j])else W).map λr=>(X,(⟨x,y,ns,es,⟨mn,r⟩⟩:Bg))) U rfl,Gl]
  .show _=Y (iB x y ns es mn me (fst (λj=>if MO x y es mn me me.length j=X then EO x y es mn k (me++[j])else W) 0 y.dr.d3.length));cases fst (λj=>if MO x y es mn me me.length j=X then EO x y es mn k (me++[j])else W) 0 (y.dr.d3.length:Int)<;>rfl
  .intro j w z _;dsimp only;rw[AD w z,bs,AD (l:=es) U U];simp only[bs];rw[LM (λ_=>rfl),bs,QA];simp only[bs];rw[Iq (λ_=>rfl),bs];by_cases f:MO x y es mn me me.length j=X
   .have e:=f;simp only[MO,ne,D_,sA,C_]at e;rw[ac (by simp[e.1.2,e.2];omega),a6 f,AV b_,bs,fo h v k (me++[j]) a_ n U,bs];cases EO x y es mn k (me++[j])with
    |some r=>rfl|none=>
     rw [ac (by simp[iB])];dsimp only[iB];rw[H9 U a_,bs];simp[Y5]
   .rw[a6,ac f]
    .rfl
    .refine E_ λg=>f ?_;simp only[D_,ne,C_,sA,decide_eq_false_iff_not,not_or,not_and,D?]at g;simp only[MO,ne,D_,sA,C_]
     grind
def Z5(x y:AF)(ns es mn:Fp)(o:Option d4):Bool×Bg:=match o with
 |some r=>(X,⟨x,y,ns,es,r⟩)|none=>(T,⟨x,y,ns,es,⟨mn,[]⟩⟩)
theorem gC{x y:AF}{ns es:Fp}(h:ZB x y ns es):∀(k:Nat)(mn:Fp),mn.length+k=x.dr.dl.length->∀n,k<n->B0 n ⟨x,y,ns,es,⟨mn,[]⟩⟩=Y (Z5 x y ns es mn (Pd x y ns es k mn))
 |0,mn,C,n,w=>by
  obtain ⟨n,rfl⟩:∃q,n=q+1:=⟨n-1,U⟩;rw[B0,a6 a_];have e:IC ⟨x,y,ns,es,⟨mn,[]⟩⟩=Y (iB x y ns es mn [] (EO x y es mn x.dr.d3.length [])):=DV (x.dr.d3.length+1) λn w=>fo h U _ _ V n U;rw[e,bs];show _=Y (Z5 x y ns es mn ((EO x y es mn x.dr.d3.length []).map (d4.mk mn)));cases EO x y es mn x.dr.d3.length []<;>rfl
 |k+1,mn,C,n,w=>by
  obtain ⟨n,rfl⟩:∃q,n=q+1:=⟨n-1,U⟩;have D:=h.nl;have E:=h.xn;have F:=h.yn;have G:=h.xv;have H:=h.yv;rw[B0];dsimp only;rw[ac a_,
   EY (a:=0) (b:=(y.dr.dl.length:Int)) (λ_=>(⟨x,y,ns,es,⟨mn,[]⟩⟩:Bg)) (λj=>(if(KA x y ns mn mn.length j&&SF x y (mn++[j]) mn.length)=X then Pd x y ns es k (mn++[j])else W).map λr=>(X,(⟨x,y,ns,es,r⟩:Bg))) U rfl,Gl]
  .show _=Y (Z5 x y ns es mn (fst (λj=>if(KA x y ns mn mn.length j&&SF x y (mn++[j]) mn.length)=X then Pd x y ns es k (mn++[j])else W) 0 y.dr.dl.length));cases fst (λj=>if(KA x y ns mn mn.length j&&SF x y (mn++[j]) mn.length)=X then Pd x y ns es k (mn++[j])else W) 0 (y.dr.dl.length:Int)<;>rfl
  .intro j z B _;dsimp only;rw[AD z B,bs,AD (l:=ns) U U];simp only[bs];rw[LM (λ_=>rfl),bs,AD (l:=x.dr.dl) U U];simp only[bs];rw[Iq (λ_=>rfl),bs,QA];simp only[bs];rw[Iq (λ_=>rfl),bs,AD (l:=x.eb) U U,AD (l:=y.eb) z U];simp only[bs,Kb];rw[Iq (λ_=>rfl),bs];by_cases f:KA x y ns mn mn.length j=X
   .have v:=f;simp only[KA,ne,D_,sA,C_]at v;have u:=bQ (x:=x) (y:=y) (ns:=ns) (es:=es) (me:=[]) h.xe h.ye (mn:=mn++[j]) a_ (l:=mn.length) U a_;rw[z_ V]at u;rw[ac (by simp[v.1.1.2,v.1.2,v.2];omega),AV b_,bs,u,bs,f,D'];have A:slc (mn++[j]) 0 (mn.length:Int)=Y mn:=by rw[H9 U a_];simp
    cases SF x y (mn++[j]) mn.length with
    |false=>rw[ac a!,ac a!,A];rfl|true=>
     rw [a6 rfl,a6 rfl,gC h k (mn++[j]) a_ n U,bs];cases Pd x y ns es k (mn++[j])with
     |some r=>rfl|none=>
      rw [ac (by simp[Z5])];dsimp only[Z5];rw[A];rfl
   .rw[a6,ac (by simp[f])]
    .rfl
    .refine E_ λg=>f ?_;simp only[D_,ne,C_,sA,decide_eq_false_iff_not,not_or,not_and,D?]at g;simp only[KA,ne,D_,sA,C_];exact⟨⟨⟨by have:=g.1.1.1;omega,g.1.1.2⟩,C!.2 g.1.2⟩,g.2⟩
def mS(o:Option d4):d4×Bool:=match o with
 |some r=>(r,X)|none=>(⟨[],[]⟩,T)
theorem XN{f t:d4}(w:DN x)(sy:DN y)(xv:x.eb.length=x.dr.dl.length)(yv:y.eb.length=y.dr.dl.length)(ends:PO x)(hi:Un x f t):Dl x y f t=Y (mS (Ga x y f t)):=by
 have E:=w.ea;have F:=w.eg;have G:=sy.ea;have H:=sy.eg;unfold Dl Ga;by_cases e:x.dr.dl.length=y.dr.dl.length/\x.dr.d3.length=y.dr.d3.length
 case neg=>rw[ac e,a6];rfl;simp;omega
 rw [a6 e,ac a_,fv U hi.nl hi.nin,bs,fv U hi.el hi.ein,bs];cases A:PQ x.dr.dl.length f.dl t.dl with
 |none=>rfl|some ns=>
 cases B:PQ x.dr.d3.length f.d3 t.d3 with
 |none=>rfl|some es=>
 rw [ac (by simp[Yp])];have z:=(Oe (λp v=>by obtain⟨i,u,i1,rfl⟩:=(O5 hi.nl).1 v;have:=hi.nin _ (AI u i1);simpa using this) A).1;have le:=(Oe (λp v=>by obtain⟨i,u,i1,rfl⟩:=(O5 hi.el).1 v;have:=hi.ein _ (AI u i1);simpa using this) B).1;rw[A!]at z le;have g:ZB x y ns es:=⟨z,le,U,U,U,U,xv,yv,ends⟩;have C:Gk ⟨x,y,ns,es,⟨[],[]⟩⟩=Y (Z5 x y ns es [] (Pd x y ns es x.dr.dl.length [])):=DV (x.dr.dl.length+1) λn D=>gC g _ _ V n U;show(Gk ⟨x,y,ns,es,⟨[],[]⟩⟩).bind _=_;rw[C,bs,Wh e.1 e.2 ends _ _ V (λi u i1=>k!)];dsimp only;cases Gb x y ns es x.dr.dl.length []<;>rfl
end Go.Sf.Sc
namespace Go.Sf.Sc
open Go Go.Sf
def YE(x y:AF)(ns es:Fp)(o:Option d4):A5:=match o with
 |some r=>⟨x,y,ns,es,r,X⟩|none=>⟨x,y,ns,es,⟨[],[]⟩,T⟩
variable{x y:AF}
theorem gV{ns es mn:Fp}(h:ZB x y ns es)(N:mn.length=x.dr.dl.length):∀(k:Nat)(me:Fp),me.length+k=x.dr.d3.length->∀n,k<n->CC n (⟨x,y,ns,es,⟨[],[]⟩,T⟩:A5) mn me=Y (YE x y ns es ((EO x y es mn k me).map (d4.mk mn)))
 |0,me,θ,n,ε=>by
  obtain ⟨n,rfl⟩:∃q,n=q+1:=⟨n-1,U⟩;have P:=h.xe;have Q:=h.xn;rw[CC];dsimp only;rw[a6 a_,Be a?,bs,Be a?];rfl
 |k+1,me,θ,n,ε=>by
  obtain ⟨n,rfl⟩:∃q,n=q+1:=⟨n-1,U⟩;have κ:=h.el;have P:=h.xe;have Q:=h.ye;have K:=h.ends _ (AI (l:=x.dr.d3) (i:=(me.length:Int)) U U);rw[CC];dsimp only;rw[ac a_,AD U U,bs];obtain⟨j,M⟩:=b9 (ρ:=A5) (f:=λ(u:A5×Int)=>
   if ((decide (u.2<(u.1.b.dr.d3.length:Int)))&&(!u.1.wA))=X then
   (Ft me u.2).bind λD=>
   (if(!D)=X then((idx u.1.eg (me.length:Int)).bind λE=>
   (if(decide (E<0))=X then Y X else((idx u.1.eg (me.length:Int)).bind λF=>
   Y (decide (F=u.2)))).bind λG=>
   Y (G))else Y T).bind λH=>
   (if H=X then((idx u.1.b.dr.d3 u.2).bind λI=>
   (idx mn (AA x.dr.d3 me.length).hV).bind λv=>
   (idx mn (AA x.dr.d3 me.length).To).bind λw=>
   Y (decide (I=(CN.mk (AA x.dr.d3 me.length).ia v w))))else Y T).bind λz=>
   if z=X then
   (Aw [] me).bind λA=>
   (Aw A [u.2]).bind λB=>
   (CC n u.1 mn B).bind λC=>
   Y (.next (C,At (u.2+1)))
   else
   Y (.next (u.1,At (u.2+1)))
   else
   Y (.brk (u.1,u.2))) (⟨x,y,ns,es,⟨[],[]⟩,T⟩:A5) (λj=>(if MO x y es mn me me.length j=X then EO x y es mn k (me++[j])else W).map λr=>(⟨x,y,ns,es,⟨mn,r⟩,X⟩:A5)) (a:=0) (b:=y.dr.d3.length) U (λj O J=>by
    dsimp only;rw[a6 (by simpa using J)];unfold Ft;rw[LP,bs,AD (l:=es) U U];simp only[bs];rw[Iq (λ_=>rfl)];simp only[bs];rw[LM (λ_=>rfl),bs,AD O J,AD K.1.1 U,AD K.2.1 U];simp only[bs];rw[LM (λ_=>rfl),bs];have hf:(!hasB me j&&(decide (AA es me.length<0)||decide (AA es me.length=j))&&decide (AA y.dr.d3 j=⟨(AA x.dr.d3 me.length).ia,AA mn (AA x.dr.d3 me.length).hV,AA mn (AA x.dr.d3 me.length).To⟩))=MO x y es mn me me.length j:=by
     unfold MO;cases hasB me j<;>simp[Bool.and_comm]
    rw [hf];cases MO x y es mn me me.length j with
    |false=>rw[ac a!,ac a!,A1 U U];rfl|true=>
     rw [a6 rfl,a6 rfl,Be a?,bs,AV b_,bs];have S:=gV h N k (me++[j]) a_ n U;rw[S,bs,A1 U U];cases EO x y es mn k (me++[j])<;>rfl) (λi r j e=>by
    cases hh:(if MO x y es mn me me.length i=X then EO x y es mn k (me++[i])else W)with
    |none=>rw[hh]at e;cases e
    |some η=>
     rw [hh]at e;cases e;dsimp only;rw[ac V]) (by dsimp only;rw[ac V])
  rw [Gl]at M;rw[M,B1];show Y ((Option.map _ (EO x y es mn (k+1) me)).getD _)=_;cases EO x y es mn (k+1) me<;>rfl
theorem gZ{ns es:Fp}(h:ZB x y ns es):∀(k:Nat)(mn:Fp),mn.length+k=x.dr.dl.length->∀n,k<n->CD n (⟨x,y,ns,es,⟨[],[]⟩,T⟩:A5) mn=Y (YE x y ns es (Gb x y ns es k mn))
 |0,mn,κ,n,N=>by
  obtain ⟨n,rfl⟩:∃q,n=q+1:=⟨n-1,U⟩;have e:IN (⟨x,y,ns,es,⟨[],[]⟩,T⟩:A5) mn []=Y (YE x y ns es ((EO x y es mn x.dr.d3.length []).map (d4.mk mn))):=DV (x.dr.d3.length+1) λn N=>gV h U _ _ V n U;rw[CD,a6 a_,e,bs];rfl
 |k+1,mn,κ,n,N=>by
  obtain ⟨n,rfl⟩:∃q,n=q+1:=⟨n-1,U⟩;have η:=h.nl;have ζ:=h.xn;have δ:=h.yn;have Z:=h.xv;have h5:=h.yv;rw[CD];dsimp only;rw[ac a_];obtain⟨j,Q⟩:=b9 (ρ:=A5) (f:=λ(u:A5×Int)=>
   if ((decide (u.2<(u.1.b.dr.dl.length:Int)))&&(!u.1.wA))=X then
   (Ft mn u.2).bind λC=>
   (if C=X then Y X else((idx u.1.ea (mn.length:Int)).bind λD=>
   (if(decide (0<=D))=X then((idx u.1.ea (mn.length:Int)).bind λE=>
   Y (!decide (E=u.2)))else Y T).bind λF=>
   Y (F))).bind λG=>
   (if G=X then Y X else((idx u.1.a.dr.dl (mn.length:Int)).bind λH=>
   (idx u.1.b.dr.dl u.2).bind λI=>
   Y (!decide (H=I)))).bind λJ=>
   (if J=X then Y X else((idx u.1.a.eb (mn.length:Int)).bind λK=>
   (idx u.1.b.eb u.2).bind λM=>
   (Dq K M).bind λv=>
   Y (!v))).bind λw=>
   if w=X then
   Y (.next (u.1,At (u.2+1)))
   else
   (Aw [] mn).bind λz=>
   (Aw z [u.2]).bind λA=>
   (CD n u.1 A).bind λB=>
   Y (.next (B,At (u.2+1)))
   else
   Y (.brk (u.1,u.2))) (⟨x,y,ns,es,⟨[],[]⟩,T⟩:A5) (λj=>(if KA x y ns mn mn.length j=X then Gb x y ns es k (mn++[j])else W).map λr=>(⟨x,y,ns,es,r,X⟩:A5)) (a:=0) (b:=y.dr.dl.length) U (λj O P=>by
    dsimp only;rw[a6 (by simpa using P)];unfold Ft;rw[LP,bs,AD (l:=ns) U U];simp only[bs];rw[LM (λ_=>rfl)];simp only[bs];rw[Iq (λ_=>rfl),bs,AD (l:=x.dr.dl) U U,AD O P];simp only[bs];rw[Iq (λ_=>rfl),bs,AD (l:=x.eb) U U,AD (l:=y.eb) O U];simp only[bs,WK];rw[Iq (λ_=>rfl),bs];have hf:(hasB mn j||(decide (0<=AA ns mn.length)&&!decide (AA ns mn.length=j))||!decide (AA x.dr.dl mn.length=AA y.dr.dl j)||!decide (AA x.eb mn.length=AA y.eb j))=!KA x y ns mn mn.length j:=by
     unfold KA;have S:decide (0<=AA ns mn.length)=!decide (AA ns mn.length<0):=by
      by_cases g:AA ns mn.length<0
      .rw[decide_eq_true g,decide_eq_false U];rfl
      .rw[decide_eq_false g,decide_eq_true U];rfl
     have θ:decide (AA x.dr.dl mn.length=AA y.dr.dl j)=decide (AA y.dr.dl j=AA x.dr.dl mn.length):=by simp only[eq_comm]
     rw [S,θ];cases hasB mn j<;>cases decide (AA ns mn.length<0)<;>cases decide (AA ns mn.length=j)<;>cases decide (AA y.dr.dl j=AA x.dr.dl mn.length)<;>rfl
    rw [hf];cases KA x y ns mn mn.length j with
    |false=>rw[a6 (show(!false)=true from rfl),ac a!,A1 U U];rfl|true=>
     rw [ac (show¬(!true)=true by decide),a6 rfl,Be a?,bs,AV b_,bs];have ε:=gZ h k (mn++[j]) a_ n U;rw[ε,bs,A1 U U];cases Gb x y ns es k (mn++[j])<;>rfl) (λi r j e=>by
    cases hh:(if KA x y ns mn mn.length i=X then Gb x y ns es k (mn++[i])else W)with
    |none=>rw[hh]at e;cases e
    |some r'=>
     rw [hh]at e;cases e;dsimp only;rw[ac V]) (by dsimp only;rw[ac V])
  rw [Gl]at Q;rw[Q,B1];show Y ((Option.map _ (Gb x y ns es (k+1) mn)).getD _)=_;cases Gb x y ns es (k+1) mn<;>rfl
theorem XR{f t:d4}(w:DN x)(sy:DN y)(xv:x.eb.length=x.dr.dl.length)(yv:y.eb.length=y.dr.dl.length)(ends:PO x)(hi:Un x f t):GO x y f t=Y (mS (Ga x y f t)):=by
 have E:=w.ea;have F:=w.eg;have G:=sy.ea;have H:=sy.eg;unfold GO Ga;by_cases e:x.dr.dl.length=y.dr.dl.length/\x.dr.d3.length=y.dr.d3.length
 case neg=>rw[ac e,a6];rfl;simp;omega
 rw [a6 e,ac a_,gW U hi.nl hi.nin,bs,gW U hi.el hi.ein,bs];cases A:PQ x.dr.dl.length f.dl t.dl with
 |none=>rfl|some ns=>
 cases B:PQ x.dr.d3.length f.d3 t.d3 with
 |none=>rfl|some es=>
 rw [ac (by simp[Yp])];have z:=(Oe (λp u=>by obtain⟨i,v,i1,rfl⟩:=(O5 hi.nl).1 u;have:=hi.nin _ (AI v i1);simpa using this) A).1;have le:=(Oe (λp u=>by obtain⟨i,v,i1,rfl⟩:=(O5 hi.el).1 u;have:=hi.ein _ (AI v i1);simpa using this) B).1;rw[A!]at z le;have g:ZB x y ns es:=⟨z,le,U,U,U,U,xv,yv,ends⟩;have C:GI (⟨x,y,ns,es,⟨[],[]⟩,T⟩:A5) []=Y (YE x y ns es (Gb x y ns es x.dr.dl.length [])):=DV (x.dr.dl.length+1) λn D=>gZ g _ _ V n U;show(GI (⟨x,y,ns,es,⟨[],[]⟩,T⟩:A5) []).bind _=_;rw[C,bs];dsimp only;cases Gb x y ns es x.dr.dl.length []<;>rfl
end Go.Sf.Sc
namespace Go.Sf.Sc
open Go Go.Sf
def F2(h0:AF)(p:CP):A7:=⟨⟨h0,p.gx⟩,p.kp,p.ll⟩
def I1(p:CP):Ca:=⟨p.gx,p.kp,p.ll⟩
instance:Inhabited A7:=⟨F2 (default:CP).kp default⟩
instance:Inhabited Ca:=⟨I1 default⟩
section
variable{t:AC}{rules:List eh}{h0:AF}{m0:d4}{depth:Int}
structure ND(m0:d4)(p:CP):Prop where
 sm:DN p.kp
 vl:p.kp.eb.length=p.kp.dr.dl.length
 ends:PO p.kp
 inn:IY p.ll p.kp.dr
 nl:p.ll.dl.length=m0.dl.length
 el:p.ll.d3.length=m0.d3.length
variable{p:CP}
theorem JH.fact(hf:A0 t)(hr:Eu rules)(u:IY m0 h0.dr)(g:JH t rules h0 m0 p):ND m0 p:=by
 obtain ⟨a,_,c,d,e,f⟩:=YJ hf hr u g;obtain⟨x,y,z⟩:=VN (Ou hf d).2;exact⟨a,y,z,c,e,f⟩
variable{q:CP}
theorem V4(a:ND m0 p)(b:ND m0 q):Un p.kp p.ll q.ll:=⟨by rw[a.nl,b.nl],by rw[a.el,b.el],λk e=>(a.inn.node k e).2,λk e=>(a.inn.edge k e).2⟩
theorem vR(a:ND m0 p)(b:ND m0 q):Ha (F2 h0 p) (F2 h0 q)=Y (PY p q):=by
 unfold Ha NQ;show((Dl q.kp p.kp q.ll p.ll).bind _).bind _=_;rw[XN b.sm a.sm b.vl a.vl b.ends (V4 b a),bs,bs];unfold PY;rw[nv (V4 a b) (V4 b a) a.ends b.ends];cases Ga q.kp p.kp q.ll p.ll<;>rfl
theorem vw{l:List CP}(f:∀p∈l,ND m0 p)(b:ND m0 q):Lb (l.map I1) (I1 q)=Y (l.any λp=>PY p q):=by
 unfold Lb;rw[Iz,c9,Bk (λi=>PY (AA l i) q) X]
 .cases kg (λi=>PY (AA l i) q) 0 (l.length:Int)<;>rfl
 intro i e i1 _;have a:=f _ (AI e i1);rw[AD e d!,D8 e i1];simp only[bs];show((GO (AA l i).kp q.kp (AA l i).ll q.ll).bind _)=_;rw[XR a.sm b.sm a.vl b.vl a.ends (V4 a b),bs];unfold PY;cases Ga (AA l i).kp q.kp (AA l i).ll q.ll<;>rfl
variable{i:Int}
theorem vT(u:IY m0 h0.dr)(a:ND m0 p)(v:p.gx.length<=5){m:AP}(tk:JI p.kp (OG t rules p ⟨i,m⟩))(f:(OG t rules p ⟨i,m⟩).j0=m):FT (F2 h0 p) i (OG t rules p ⟨i,m⟩)=Y (F2 h0 (Pc t rules p ⟨i,m⟩)):=by
 unfold FT Kc;dsimp only[F2];rw[Be a?,bs,AV b_,bs,KD a.inn.t2 (λx e=>by have:=a.inn.node x e;rw[tk.t2];exact this),bs,KD a.inn.wi (λx e=>by have:=a.inn.edge x e;rw[tk.wi];exact this),bs,f];rfl
theorem dy{l s:List CP}(h:Q8 t rules h0 m0 p l s)(e:0<=i)(i1:i<l.length):AA s i=AA l i/\i<s.length:=by
 obtain ⟨ext,rfl,_,_⟩:=h
 grind [Ru]
theorem dz(hf:A0 t)(hr:Eu rules)(f:IY m0 h0.dr){l s:List CP}(u:∀q∈l,JH t rules h0 m0 q)(h:Q8 t rules h0 m0 p l s):∀q∈s,ND m0 q:=by
 obtain ⟨ext,rfl,_,v⟩:=h;intro q e;rcases v!.1 e with e|e
 .exact(u q e).fact hf hr f
 .exact(v q e).1.fact hf hr f
theorem lZ{l:List A7}{f:A7->K1}{p:A7->Bool}(h:∀x∈l,f x=Y (p x)):CM l f=Y (l.any p):=FU h
variable{k:Int}
theorem yD(hf:A0 t)(hr:Eu rules)(u:IY m0 h0.dr){l:List CP}(J:∀q∈l,JH t rules h0 m0 q)(B:0<=i)(i1:i<l.length)(P:(AA l i).gx.length<5)(Q:0<=k)(S:k<rules.length){m:AP}(D:(Ez t rules (AA l i).kp ⟨k,m⟩).2=0){s:List CP}(E:Q8 t rules h0 m0 (AA l i) l s):
  ((idx (s.map (F2 h0)) i).bind λF=>
   (Fv t (AA rules k) F.Aav m).bind λe=>
   if (!decide (e.2=0))=X then
   Y (.ret (([]:List A7),e.2))
   else
   if (decide (8<(e.1.ex.dr.dl.length:Int)))=X then
   Y (.ret ([],3))
   else
   (idx (s.map (F2 h0)) i).bind λG=>
   (FT G k e.1).bind λv=>
   (CM (s.map (F2 h0)) (λH=>Ha H v)).bind λI=>
   if I=X then
   Y (.next (s.map (F2 h0)))
   else
   if (decide (((s.map (F2 h0)).length:Int)=300))=X then
   Y (.ret ([],3))
   else
   (Aw (s.map (F2 h0)) [v]).bind λw=>
   Y (.next w))=Y (W5 ([],3) ((Oc t rules (AA l i) ⟨k,m⟩ s).map (B! (F2 h0)))):=by
 have K:=J _ (AI B i1);have ε:=K.fact hf hr u;obtain⟨ζ,O⟩:=dy E B i1;obtain⟨δ,tk,e3,Z⟩:=VL hf hr u K D P;have κ:=δ.fact hf hr u;have z:=hr.each _ (AI (l:=rules) Q S);have η:Ef t (AA rules k) (AA l i).kp m=(OG t rules (AA l i) ⟨k,m⟩,0):=by
  grind [Ez]
 rw [AD B (by simpa using O),D8 B O,ζ];simp only[bs];show((Fv t (AA rules k) (AA l i).kp m).bind _)=_;rw[Yn hf z.1 z.2,η,bs,ac V];dsimp only;unfold Oc;by_cases M:8<(OG t rules (AA l i) ⟨k,m⟩).ex.dr.dl.length
 .rw[a6 a_,a6 M];rfl
 have A:CM (s.map (F2 h0)) (λH=>Ha H (F2 h0 (Pc t rules (AA l i) ⟨k,m⟩)))=Y (s.any λq=>PY q (Pc t rules (AA l i) ⟨k,m⟩)):=by
  rw [lZ (p:=λy=>PY ⟨y.d.ib,y.Aav,y.fd⟩ (Pc t rules (AA l i) ⟨k,m⟩)),List.any_map]
  .rfl
  .intro x θ;obtain⟨q,hq,rfl⟩:=v?.1 θ;exact vR (dz hf hr u J E q hq) κ
 rw [ac a_,ac M,vT u ε U tk Z,bs,A,bs];by_cases C:(s.any λq=>PY q (Pc t rules (AA l i) ⟨k,m⟩))=X
 .rw[a6 C,a6 C];rfl
 rw [ac C,ac C,c9];by_cases f:s.length=300
 .rw[a6 (by simp[f]),a6 f];rfl
 .have N:s.length<=300:=by obtain⟨ext,rfl,h3,_⟩:=E;exact h3
  rw [ac a_,ac f,AV b_,bs];simp[W5]
variable{mv:DA}
theorem yX(hf:A0 t)(hr:Eu rules)(G:IY m0 h0.dr){l:List CP}(S:∀q∈l,JH t rules h0 m0 q)(H:0<=i)(i1:i<l.length)(Z:(AA l i).gx.length<5)(A:(Ez t rules (AA l i).kp mv).2=0){s:List CP}(K:Q8 t rules h0 m0 (AA l i) l s):
  ((idx rules mv.eh).bind λM=>
   (idx (s.map I1) i).bind λN=>
   (Et t M N.kp mv.j0).bind λe=>
   if (!decide (e.2=0))=X then
   Y (.ret (([]:List Ca),e.2))
   else
   if (decide (8<(e.1.ex.dr.dl.length:Int)))=X then
   Y (.ret ([],3))
   else
   (idx (s.map I1) i).bind λO=>
   (Aw [] O.gx).bind λP=>
   (Aw P [mv]).bind λf=>
   (idx (s.map I1) i).bind λB=>
   (GP B.ll.dl e.1.kl.dl).bind λu=>
   (idx (s.map I1) i).bind λC=>
   (GP C.ll.d3 e.1.kl.d3).bind λv=>
   (Lb (s.map I1) (Ca.mk f e.1.ex (d4.mk u v))).bind λD=>
   if D=X then
   Y (.next (s.map I1))
   else
   if (decide (((s.map I1).length:Int)=300))=X then
   Y (.ret ([],3))
   else
   (Aw (s.map I1) [Ca.mk f e.1.ex (d4.mk u v)]).bind λE=>
   Y (.next E))=Y (W5 ([],3) ((Oc t rules (AA l i) mv s).map (B! I1))):=by
 have θ:=S _ (AI H i1);have I:=θ.fact hf hr G;obtain⟨e1,η⟩:=dy K H i1;obtain⟨gn,tk,e3,e4⟩:=VL hf hr G θ A Z;have fn:=gn.fact hf hr G;obtain⟨⟨ζ,δ⟩,_,_⟩:=Rw hf hr A;have F:=hr.each _ (AI (l:=rules) ζ δ);have e5:Ef t (AA rules mv.eh) (AA l i).kp mv.j0=(OG t rules (AA l i) mv,0):=by
  rw [<-e3];unfold Ez;rw[ac U]
 rw [AD ζ δ,bs,AD H (by simpa using η),D8 H η,e1];simp only[bs];show((Et t (AA rules mv.eh) (AA l i).kp mv.j0).bind _)=_;rw[gm hf F.1 F.2,e5,bs,ac V];dsimp only[I1];unfold Oc;by_cases ε:8<(OG t rules (AA l i) mv).ex.dr.dl.length
 .rw[a6 a_,a6 ε];rfl
 have w:=vw (dz hf hr G S K) fn;have h4:(AA l i).gx.length<=5:=U
 rw [ac a_,ac ε,Be a?,bs,AV b_,bs,UU I.inn.t2 (λx Q=>by have:=I.inn.node x Q;rw[tk.t2];exact this),bs,UU I.inn.wi (λx Q=>by have:=I.inn.edge x Q;rw[tk.wi];exact this),bs];show((Lb (s.map I1) (I1 (Pc t rules (AA l i) mv))).bind _)=_;rw[w,bs];by_cases J:(s.any λq=>PY q (Pc t rules (AA l i) mv))=X
 .rw[a6 J,a6 J];rfl
 rw [ac J,ac J,c9];by_cases z:s.length=300
 .rw[a6 (by simp[z]),a6 z];rfl
 .have κ:s.length<=300:=by obtain⟨ext,rfl,h3,_⟩:=K;exact h3
  rw [ac a_,ac z,AV b_,bs];simp[W5];rfl
end
end Go.Sf.Sc
namespace Go.Sf.Sc
open Go Go.Sf
section
variable{t:AC}{rules:List eh}{h0:AF}{m0:d4}{depth:Int}
theorem lF{β ρ γ:Type}(hf:A0 t)(hr:Eu rules)(z:IY m0 h0.dr)(hd:depth<=4){f:List β×Int->Option (CF (List β×Int) ρ)}{k:List β×Int->Option γ}{v:ρ->Option γ}{ζ:Option γ}(enc:List CP->List β)(e:ρ)
  (A:∀i l,0<=i->JZ t rules h0 m0 depth i l->i<l.length->((AA l i).gx.length:Int)≠depth->f (enc l,i)=Y (match PU t rules (AA l i) l with|some G=>.next (enc G,i+1)|none=>.ret e))
  (B:∀i l,0<=i->JZ t rules h0 m0 depth i l->i<l.length->((AA l i).gx.length:Int)=depth->f (enc l,i)=Y (.brk (enc l,i))\/f (enc l,i)=Y (.next (enc l,i+1)))
  (C:∀i l,0<=i->JZ t rules h0 m0 depth i l->(l.length:Int)<=i->f (enc l,i)=Y (.brk (enc l,i)))
  {l:List CP}{w:List β×Int}(D:w=(enc l,0))(E:JZ t rules h0 m0 depth 0 l)(ha:∀r j,ML t rules depth 301 0 l=Y r->k (enc r,j)=ζ)(hb:ML t rules depth 301 0 l=W->v e=ζ):ei (D5 f w) k v=ζ:=by
 subst D;obtain⟨o,F,u⟩:=iZ hf hr z hd enc e A B C 301 0 l U E U;rw[F.eq];cases h:ML t rules depth 301 0 l with
 |none=>
  rw [h]at u;subst u;exact hb h
 |some r=>
  rw [h]at u;obtain⟨j,rfl⟩:=u;exact ha r j h
variable{i:Int}
theorem Qx{l:List CP}(h:JZ t rules h0 m0 depth i l):∀q∈l,JH t rules h0 m0 q:=λq e=>(h.good q e).1
variable{p:CP}{k:Int}
theorem aK(hf:A0 t)(hr:Eu rules)(u:IY m0 h0.dr)(f:JH t rules h0 m0 p)(v:0<=k)(w:k<rules.length)(e:(GV t (AA rules k) p.kp).2≠0):(GV t (AA rules k) p.kp).2=3:=
 (ud hf ((wC f.rep.given).1 _ (AI v w)) (YJ hf hr u f).2.2.2.1).resolve_left e
def Nw{β:Type}(enc:CP->β)(o:Option (List CP)):List β×Int:=match o with
 |some L=>(L.map enc,0)|none=>([],3)
theorem kM(hf:A0 t)(hr:Eu rules)(H:G3 t rules h0=0)(C:IY m0 h0.dr)(J:0<=depth)(hd:depth<=4):Ia t rules (F2 h0 ⟨[],h0,m0⟩) depth=Y (Nw (F2 h0) (dK t rules depth ⟨[],h0,m0⟩)):=by
 unfold Ia;refine lF hf hr C hd (B! (F2 h0)) ([],3) (λi l f gb i1 D=>?_) (λi l f gb i1 he=>?_) (λi l f gb i1=>?_) (l:=[⟨[],h0,m0⟩]) rfl (RX hf hr H C J) (λr j e=>?_) (λe=>?_)
 .have N:=Qx gb;have F:=N _ (AI f i1);have Q:=(gb.good _ (AI f i1)).2;have u:=gb.few;have O:(AA l i).gx.length<5:=U
  dsimp only;rw[a6 d!,AD f d!,bs,D8 f i1,ac (by show¬decide (((AA l i).gx.length:Int)=depth)=X;simpa using D),A1 U U,
   PS (l:=A3 rules.length) (B! (F2 h0)) (λk K=>if(GV t (AA rules k) (AA l i).kp).2=0 then FP (Oc t rules (AA l i)) (G8 t rules (AA l i).kp k) K else W) ([],3) (λ_=>Q8 t rules h0 m0 (AA l i) l) rfl (by rw[A4]) ⟨[],V,u,λq M=>by cases M⟩,YN]
  .show ei (Y (Z8 _ ((PU t rules (AA l i) l).map _))) _ _=_;cases PU t rules (AA l i) l<;>rfl
  intro k s z v w;rw[A4]at v;have A:=hr.each _ (AI (l:=rules) z v);obtain⟨P,G⟩:=dy w f i1;rw[QN _ z v,AD z v,bs,AD f (by simpa using G),bs,D8 f G,P];show((FR t (AA rules k) (AA l i).kp).bind _)=_/\_;rw[yG hf A.1 A.2,bs];by_cases B:(GV t (AA rules k) (AA l i).kp).2=0
  case neg=>
   rw [a6 (by simp[B]),ac B,aK hf hr C F z v B];exact⟨rfl,λs' h=>c_⟩
  rw [ac (by simp[B]),a6 B,
   PS (l:=G8 t rules (AA l i).kp k) (B! (F2 h0)) (Oc t rules (AA l i)) ([],3) (λ_=>Q8 t rules h0 m0 (AA l i) l) rfl (by simp[G8]) w]
  .refine⟨by cases FP (Oc t rules (AA l i)) (G8 t rules (AA l i).kp k) s<;>rfl,λs' h=>?_⟩;exact VD (I:=Q8 t rules h0 m0 (AA l i) l) (λmv E s s' w e=>Vz hf hr C F O (Ue z v E) w e) w h
  grind [Ue,AI,GV,AA,G8,D8,AD,yD,Vz]
 .right;have u:=gb.few;dsimp only;rw[a6 d!,AD f d!,bs,D8 f i1,a6 (by show decide (((AA l i).gx.length:Int)=depth)=X;simpa using he),A1 U U]
 .grind
 .show Y (_,_)=Y (Nw _ (ML t rules depth 301 0 _));rw[e];rfl
 .show Y (_,_)=Y (Nw _ (ML t rules depth 301 0 _));rw[e];rfl
theorem vd(hf:A0 t)(hr:Eu rules)(w:IY m0 h0.dr)(z:JH t rules h0 m0 p):dF t rules p.kp=Y (if X0 t rules p.kp=X then((A3 rules.length).flatMap (G8 t rules p.kp),0)else([],3)):=by
 have v:=hr.len;have hb:∀(is:Fp)(s:List DA),FP (λk s=>if(GV t (AA rules k) p.kp).2=0 then Y (s++G8 t rules p.kp k)else W) is s=if is.all (λi=>decide ((GV t (AA rules i) p.kp).2=0))=X then Y (s++is.flatMap (G8 t rules p.kp))else W:=by
  intro is
  induction is with
  |nil=>intro s;simp[FP]|cons k is C=>
   intro s;rw[FP,B_,B']
   grind
 unfold dF;rw[PS (l:=A3 rules.length) (λs=>s) (λk s=>if(GV t (AA rules k) p.kp).2=0 then Y (s++G8 t rules p.kp k)else W) ([],3) (λi s=>(s.length:Int)<=5000*i) rfl (by rw[A4]) V,hb]
 .grind[ei,Z8,X0]
 intro k s u f A;rw[A4]at f;have B:=ue (t:=t) (r:=AA rules k) (h:=p.kp);rw[QN _ u f,AD u f,bs];by_cases e:(GV t (AA rules k) p.kp).2=0
 .rw[ac b?,a6 e,qK U,bs];refine⟨rfl,λs' h=>?_⟩
  grind [G8,az,c9]
 .rw[a6 b?,ac e,aK hf hr w z u f e];exact⟨rfl,λs' h=>c_⟩
theorem gf(hf:A0 t)(hr:Eu rules)(F:G3 t rules h0=0)(v:IY m0 h0.dr)(G:0<=depth)(hd:depth<=4):Il t rules (I1 ⟨[],h0,m0⟩) depth=Y (Nw I1 (dK t rules depth ⟨[],h0,m0⟩)):=by
 unfold Il;refine lF hf hr v hd (B! I1) ([],3) (λi l f gb i1 H=>?_) (λi l f gb i1 he=>?_) (λi l f gb i1=>?_) (l:=[⟨[],h0,m0⟩]) rfl (RX hf hr F v G) (λr j e=>?_) (λe=>?_)
 .have C:=Qx gb;have D:=C _ (AI f i1);have K:=(gb.good _ (AI f i1)).2;have u:=gb.few;have E:(AA l i).gx.length<5:=U
  dsimp only;rw[a6 d!,AD f d!,bs,D8 f i1,bs,a6 (by show decide (((AA l i).gx.length:Int)<depth)=X;simp;omega),bs];show((Iu t rules (AA l i).kp).bind _)=_;rw[yl hf hr,vd hf hr v D,bs,A1 U U];unfold PU;cases J:X0 t rules (AA l i).kp with
  |false=>rfl|true=>
  rw [a6 rfl,a6 rfl,ac V];dsimp only;rw[PS (l:=(A3 rules.length).flatMap (G8 t rules (AA l i).kp)) (B! I1) (Oc t rules (AA l i)) ([],3) (λ_=>Q8 t rules h0 m0 (AA l i) l) rfl rfl ⟨[],V,u,λq I=>by cases I⟩]
  .cases FP (Oc t rules (AA l i)) ((A3 rules.length).flatMap (G8 t rules (AA l i).kp)) l<;>rfl
  intro j s' A B w;have z:=aG (t:=t) (AI A B);rw[AD A B,bs];simp only[bs];exact⟨yX hf hr v C f i1 E z w,λs2 h=>Vz hf hr v D E z w h⟩
 .left;have u:=gb.few;dsimp only;rw[a6 d!,AD f d!,bs,D8 f i1,bs,ac (by show¬decide (((AA l i).gx.length:Int)<depth)=X;simp;omega)]
 .dsimp only;rw[ac d!,bs,ac a!]
 .show Y (_,_)=Y (Nw _ (ML t rules depth 301 0 _));rw[e];rfl
 .show Y (_,_)=Y (Nw _ (ML t rules depth 301 0 _));rw[e];rfl
end
end Go.Sf.Sc
namespace Go.Sf.Sc
open Go Go.Sf
def TR(a b:Fp)(n:Nat):Fp:=(A3 n).filter λi=>decide (0<=AA a i)&&decide (0<=AA b i)
def J7(a b:AR):BN:=⟨TR a.kl.dl b.kl.dl a.fl.dr.dl.length,TR a.kl.d3 b.kl.d3 a.fl.dr.d3.length⟩
variable{σ:Type}{n:Nat}
theorem bF{a b:Fp}(ha:a.length=n)(hb:b.length=n)(B:n<=1000)(mk:Fp->σ){f:Int->σ->Option σ}(hf:∀i l,f i (mk l)=((idx a i).bind λu=>(if(decide (0<=u))=X then((idx b i).bind λv=>Y (decide (0<=v)))else Y T).bind λw=>if w=X then(Aw l [i]).bind λz=>Y (mk z)else Y (mk l))){s:σ}(A:s=mk []):ls f 0 n s=Y (mk (TR a b n)):=by
 subst A;rw[By (λi=>mk (((A3 n).take i.toNat).filter λi=>decide (0<=AA a i)&&decide (0<=AA b i))) U V]
 .rw[E!,z_ (by rw[A4];omega)];rfl
 intro i e i1;rw[hf,AD e U,bs,AD e U,bs,LM (λ_=>rfl),bs,BU (l:=A3 n) e (by rw[A4];exact i1),QN _ e i1,List.filter_append]
 grind [AA,A3,take,Nat.le_trans,B?,bk,A4,AV,List.length_singleton,AY]
section
variable{t:AC}{rules:List eh}{a b:AR}{depth:Int}{strict:Bool}
theorem Va(h:a.fl=b.fl)(ta:JI a.fl a)(tb:JI b.fl b)(sm:DN a.fl):GK a b=Y (J7 a b,0):=by
 have u:=ta.t2;have v:=ta.wi;have e:=tb.t2;have f:=tb.wi;have w:=sm.ea;have z:=sm.eg;rw[<-h]at e f;unfold GK;rw[Ry,bs,ac (by simp[h];rw[<-h];omega),bF u e w (λl=>BN.mk l []) (λ_ _=>rfl) rfl,bs,bF v f z (λl=>BN.mk (TR a.kl.dl b.kl.dl a.fl.dr.dl.length) l) (λ_ _=>rfl) rfl,bs];rfl
theorem ov(h:a.fl=b.fl)(ta:JI a.fl a)(tb:JI b.fl b)(wa:G0 a.fl)(wb:G0 b.fl):M1 a b=Y (J7 a b,0):=by
 rw [<-Va h ta tb wa.s];unfold M1 GK;rw[Ry,TY wa wb]
variable{n:Nat}
theorem V7{l m:Fp}(e:n<=1000):(TR l m n).length<=1000/\∀x∈TR l m n,(0<=x/\x<n)/\0<=AA l x/\0<=AA m x:=by
 refine ⟨Nat.le_trans (B? _ _) (by rw[A4];exact e),λx f=>?_⟩;obtain⟨v,u⟩:=List.mem_filter.1 f;simp only[ne,sA]at u
 grind [Dx]
theorem xT(sm:DN a.fl):WU a.fl (J7 a b):=
 ⟨(V7 sm.ea).1,(V7 sm.eg).1,λx e=>((V7 sm.ea).2 x e).1,λx e=>((V7 sm.eg).2 x e).1⟩
noncomputable def E7(t:AC)(rules:List eh)(a b:AR):Int:=if Du t rules≠0 then Du t rules else if(Gy t a&&Gy t b)=T then 1 else if a.fl=b.fl then 0 else 8
def Qq:pr:=⟨DB,DB,⟨[],[]⟩⟩
noncomputable def Rd(t:AC)(rules:List eh)(a b:AR)(depth:Int):Option (List CP):=dK t rules depth ⟨[],a.ex,DP a (J7 a b)⟩
noncomputable def Pq(t:AC)(rules:List eh)(a b:AR)(depth:Int):Option (List CP):=dK t rules depth ⟨[],b.ex,DP b (J7 a b)⟩
def li(a b:AR)(o:Option (CP×CP×d4)):pr×Int:=match o with
 |some r=>(⟨⟨a.ex,r.1.gx⟩,⟨b.ex,r.2.1.gx⟩,r.2.2⟩,0)|none=>(Qq,10)
noncomputable def G2(t:AC)(rules:List eh)(a b:AR)(depth:Int)(strict:Bool):pr×Int:=
 if E7 t rules a b≠0 then(Qq,E7 t rules a b)
 else if depth<0\/4<depth then(Qq,6)
 else if 8<a.ex.dr.dl.length\/8<b.ex.dr.dl.length then(Qq,3)
 else match Rd t rules a b depth,Pq t rules a b depth with
  |some L,Y R=>li a b (Yr strict L R depth)|_,_=>(Qq,3)
structure U0(t:AC)(rules:List eh)(a b:AR):Prop where
 rz:Du t rules=0
 ca:Gy t a=X
 cb:Gy t b=X
 eq:a.fl=b.fl
theorem Um(h:E7 t rules a b=0):U0 t rules a b:=by
 unfold E7 at h;split at h
 .grind
 rename_i k;split at h
 .cases h
 rename_i e;split at h
 next f=>simp only[D!,ne]at e;exact⟨D?.1 k,e.1,e.2,f⟩
 .cases h
end
end Go.Sf.Sc
namespace Go.Sf
variable{σ ρ:Type}
theorem wY{f:σ×Int->Option (CF (σ×Int) ρ)}(s:σ)(c:Int->Option ρ){a b:Int}(z:a<=b)(h:∀i,a<=i->i<b->f (s,i)=Y (match c i with|some v=>.ret v|none=>.next (s,i+1)))(hb:f (s,b)=Y (.brk (s,b))):D5 f (s,a)=Y (match fst c a b with|some v=>.inr v|none=>.inl (s,b)):=by
 have u:∀(n:Nat)(a':Int),a<=a'->a'+n=b->MJ f (s,a') (match Ec c n a' with|some v=>.inr v|none=>.inl (s,b)):=by
  intro n
  induction n with
  |zero=>
   intro a' _ e;obtain rfl:a'=b:=U
   exact .brk hb
  |succ n A=>
   intro a' ha e;have k:=h a' ha U;rw[Ec];cases w:c a' with
   |none=>
    rw [w]at k;exact .next k (A (a'+1) U U)
   |some r=>
    rw [w]at k;exact .ret k
 exact (u (b-a).toNat a (Int.le_refl a) U).eq
end Go.Sf
namespace Go.Sf.Sc
open Go Go.Sf
variable{σ ρ:Type}
theorem Z7{s:σ}{o:Option ρ}:ei (Y (iM s o)) (λs2=>Y (CF.next s2)) (λe=>Y (CF.ret e))=Y (Y5 s o):=by cases o<;>rfl
section
variable{t:AC}{rules:List eh}{a b:AR}{depth:Int}{strict:Bool}{m0 m1:d4}
structure cj(m0 m1:d4)(L R:List CP):Prop where
 l:∀p∈L,ND m0 p/\p.gx.length<=5
 r:∀p∈R,ND m1 p/\p.gx.length<=5
 nl:m0.dl.length=m1.dl.length
 el:m0.d3.length=m1.d3.length
variable{L R:List CP}
theorem cj.inn(h:cj m0 m1 L R):∀p∈L,∀q∈R,Un p.kp p.ll q.ll:=λp u q v=>by
 have f:=(h.l p u).1;have g:=(h.r q v).1;exact⟨by rw[f.nl,g.nl,h.nl],by rw[f.el,g.el,h.el],λk e=>(f.inn.node k e).2,λk e=>(f.inn.edge k e).2⟩
def UP(x y:AF)(r:CP×CP×d4):pr×Int:=(⟨⟨x,r.1.gx⟩,⟨y,r.2.1.gx⟩,r.2.2⟩,0)
theorem kJ(x:AF)(p:CP):Dh (F2 x p)=Y (Aai p.ll):=by
 unfold Dh Aai;rw[QA,bs,QA];simp only[bs];rw[Iq (λ_=>rfl),bs];rfl
variable{x y:AF}
theorem vU(h:cj m0 m1 L R){s i k:Int}(H:0<=i)(i1:i<L.length)(E:0<=k)(F:k<R.length){z:pr}:
  ((idx (R.map (F2 y)) k).bind λu=>
   (if(!decide ((At (((F2 x (AA L i)).d.ib.length:Int)+(u.d.ib.length:Int)))=s))=X then Y X else((if strict=X then((Dh (F2 x (AA L i))).bind λw=>
   (if w=X then Y X else((Dh u).bind λA=>
   Y (A))).bind λB=>
   Y (B))else Y T).bind λC=>
   Y (C))).bind λD=>
   if D=X then
   Y (.next z)
   else
   if strict=X then
   (Dl (F2 x (AA L i)).Aav u.Aav (F2 x (AA L i)).fd u.fd).bind λv=>
   if v.2=X then
   Y (.ret (pr.mk (F2 x (AA L i)).d u.d v.1,0))
   else
   Y (.next z)
   else
   (Dl (F2 x (AA L i)).Aav u.Aav (d4.mk [] []) (d4.mk [] [])).bind λv=>
   if v.2=X then
   Y (.ret (pr.mk (F2 x (AA L i)).d u.d v.1,0))
   else
   Y (.next z))=Y (Y5 z ((QZ strict L R s i k).map (UP x y))):=by
 obtain ⟨f,I⟩:=h.l _ (AI H i1);obtain⟨g,J⟩:=h.r _ (AI E F);have hi:=h.inn _ (AI H i1) _ (AI E F);rw[AD E (by simpa using F),bs,D8 E F,kJ,kJ];simp only[bs];rw[Iq (λ_=>rfl)];simp only[bs];rw[LM (λ_=>rfl)];simp only[bs];rw[Iq (λ_=>rfl),bs];show(if(!decide (At (((AA L i).gx.length:Int)+(AA R k).gx.length)=s)||_)=X then _ else if strict=X then(Dl (AA L i).kp (AA R k).kp (AA L i).ll (AA R k).ll).bind _ else(Dl (AA L i).kp (AA R k).kp _ _).bind _)=_;rw[A1 U U];unfold QZ Rb;by_cases e:((AA L i).gx.length:Int)+(AA R k).gx.length=s
 case neg=>rw[a6 b?,ac e];rfl
 rw [a6 e];cases strict with
 |true=>
  rw [a6 (rfl:X=X)];by_cases G:(Aai (AA L i).ll||Aai (AA R k).ll)=X
  .rw[a6 (by simp only[G];simp),a6 G];rfl
  .rw[ac (by simp only[e,G];simp),ac G,a6 rfl,XN f.sm g.sm f.vl g.vl f.ends hi,bs];cases Ga (AA L i).kp (AA R k).kp (AA L i).ll (AA R k).ll<;>rfl
 |false=>
  rw [ac b?,ac a!,ac a!,XN f.sm g.sm f.vl g.vl f.ends (eY _),bs];cases Ga (AA L i).kp (AA R k).kp ⟨[],[]⟩ ⟨[],[]⟩<;>rfl
variable{p q:CP}
theorem o5(hi:Un p.kp p.ll q.ll)(f:ND m0 p)(g:ND m1 q):M2 (I1 p) (I1 q) strict=Y (mS (Rb strict p q)):=by
 unfold M2 Rb;cases strict with
 |false=>
  rw [a6 a!,ac a!];show((GO p.kp q.kp _ _).bind _)=_;rw[XR f.sm g.sm f.vl g.vl f.ends (eY _),bs]
 |true=>
  rw [ac a!,a6 rfl,kU,bs,kU];simp only[bs];rw[Iq (λ_=>rfl),bs];show(if(Aai p.ll||Aai q.ll)=X then _ else(GO p.kp q.kp p.ll q.ll).bind _)=_;by_cases e:(Aai p.ll||Aai q.ll)=X
  .rw[a6 e,a6 e];rfl
  .rw[ac e,ac e,XR f.sm g.sm f.vl g.vl f.ends hi,bs]
end
end Go.Sf.Sc
namespace Go.Sf.Sc
open Go Go.Sf
structure Uy(t:AC)(rules:List eh)(a b:AR):Prop where
 hf:A0 t
 hr:Eu rules
 fa:H0 a.eh
 ka:Do a.eh.d5<=40
 fb:H0 b.eh
 kb:Do b.eh.d5<=40
section
variable{t:AC}{rules:List eh}{a b:AR}{depth:Int}{strict:Bool}
variable{s:AR}
theorem br(hf:A0 t)(fr:H0 s.eh)(u:Do s.eh.d5<=40)(rz:Du t rules=0)(h:Gy t s=X):G3 t rules s.ex=0:=by
 unfold Gy at h;simp only[ne,sA]at h;obtain⟨o,e⟩:=Tn hf fr u h.1;have f:=ZM.1 h.2;rw[e]at f;have v:s.ex=PB t s.eh s.fl s.j0:=by
  have:=congrArg AR.ex f;exact this.symm
 grind [G3,WV]
structure wk(t:AC)(rules:List eh)(a b:AR):Prop where
 ta:JI a.fl a
 tb:JI b.fl b
 wa:G0 a.fl
 wb:G0 b.fl
 ga:G3 t rules a.ex=0
 gb:G3 t rules b.ex=0
 ma:IY (DP a (J7 a b)) a.ex.dr
 mb:IY (DP b (J7 a b)) b.ex.dr
 pa:WU a.fl (J7 a b)
 pb:WU b.fl (J7 a b)
theorem Pv(f:Uy t rules a b)(v:U0 t rules a b):wk t rules a b:=by
 obtain ⟨wa,ta,sa⟩:=V1 f.hf f.fa f.ka v.ca;obtain⟨wb,tb,sb⟩:=V1 f.hf f.fb f.kb v.cb;have pa:WU a.fl (J7 a b):=xT wa.s;have pb:WU b.fl (J7 a b):=v.eq▸pa;exact⟨ta,tb,wa,wb,br f.hf f.fa f.ka v.rz v.ca,br f.hf f.fb f.kb v.rz v.cb,YO pa ta,YO pb tb,pa,pb⟩
variable{L R:List CP}
theorem TG(f:Uy t rules a b)(v:U0 t rules a b)(z:0<=depth)(hd:depth<=4)(A:Rd t rules a b depth=Y L)(B:Pq t rules a b depth=Y R):
  (∀p∈L,JH t rules a.ex (DP a (J7 a b)) p)/\(∀p∈R,JH t rules b.ex (DP b (J7 a b)) p)/\cj (DP a (J7 a b)) (DP b (J7 a b)) L R:=by
 have g:=Pv f v;obtain⟨⟨j,u⟩,_⟩:=Tv f.hf f.hr g.ma hd 301 0 _ L U (RX f.hf f.hr g.ga g.ma z) A;obtain⟨⟨C,w⟩,_⟩:=Tv f.hf f.hr g.mb hd 301 0 _ R U (RX f.hf f.hr g.gb g.mb z) B;refine⟨Qx u,Qx w,λp e=>⟨(Qx u p e).fact f.hf f.hr g.ma,(Qx u p e).few⟩,λp e=>⟨(Qx w p e).fact f.hf f.hr g.mb,(Qx w p e).few⟩,?_,?_⟩
 .show(Cf _ _).length=(Cf _ _).length;rw[FI,FI]
 .show(Cf _ _).length=(Cf _ _).length;rw[FI,FI]
theorem wP(h:Du t rules≠0):E7 t rules a b=Du t rules:=by grind[E7]
theorem wQ(h:Du t rules=0)(e:(Gy t a&&Gy t b)=T):E7 t rules a b=1:=by grind[E7]
theorem wR(h:Du t rules=0)(e:Gy t a=X/\Gy t b=X):E7 t rules a b=if a.fl=b.fl then 0 else 8:=by grind[E7]
theorem eF(h:E7 t rules a b≠0):G2 t rules a b depth strict=(Qq,E7 t rules a b):=by grind[G2]
theorem eG(h:E7 t rules a b=0)(e:depth<0\/4<depth):G2 t rules a b depth strict=(Qq,6):=by grind[G2]
theorem eH(h:E7 t rules a b=0)(e:¬(depth<0\/4<depth))(f:8<a.ex.dr.dl.length\/8<b.ex.dr.dl.length):G2 t rules a b depth strict=(Qq,3):=by grind[G2]
theorem eJ(h:E7 t rules a b=0)(e:¬(depth<0\/4<depth))(f:¬(8<a.ex.dr.dl.length\/8<b.ex.dr.dl.length)):G2 t rules a b depth strict=(match Rd t rules a b depth,Pq t rules a b depth with
  |some L,Y R=>li a b (Yr strict L R depth)|_,_=>(Qq,3)):=by grind[G2]
theorem kH(f:Uy t rules a b):K6 t rules a b depth strict=Y (G2 t rules a b depth strict):=by
 unfold K6;rw[gJ f.hf f.hr f.fa f.ka f.fb f.kb,bs];show(if(!decide (E7 t rules a b=0))=X then Y (_,E7 t rules a b)else _)=_;by_cases hv:E7 t rules a b=0
 case neg=>rw[eF hv,a6 l!];rfl
 rw [ac l!];by_cases e:depth<0\/4<depth
 .rw[eG hv e,a6 d_];rfl
 rw [ac d_];by_cases z:8<a.ex.dr.dl.length\/8<b.ex.dr.dl.length
 .rw[eH hv e z,a6 a_];rfl
 have v:=Um hv;have g:=Pv f v;rw[eJ hv e z,ac a_,Va v.eq g.ta g.tb g.wa.s,bs,ac V,UR g.pa g.ta g.ta.sm,bs];have u:Ia t rules ⟨⟨a.ex,[]⟩,a.ex,DP a (J7 a b)⟩ depth=Y (Nw (F2 a.ex) (Rd t rules a b depth)):=kM f.hf f.hr g.ga g.ma U U;have s2:Ia t rules ⟨⟨b.ex,[]⟩,b.ex,DP b (J7 a b)⟩ depth=Y (Nw (F2 b.ex) (Pq t rules a b depth)):=kM f.hf f.hr g.gb g.mb U U;dsimp only;rw[u,bs];cases A:Rd t rules a b depth with
 |none=>rfl|some L=>
 rw [ac (by simp[Nw]),UR g.pb g.tb g.tb.sm,bs,s2,bs];cases B:Pq t rules a b depth with
 |none=>rfl|some R=>
 rw [ac (by simp[Nw])];obtain⟨_,_,D⟩:=TG f v U U A B;dsimp only[Nw];rw[A1 (n:=2*depth) U U,A1 (n:=2*depth+1) U U,c9,c9,
  EY (a:=0) (b:=2*depth+1) (λ_=>(⟨DB,DB,⟨[],[]⟩⟩:pr)) (λs=>(TH strict L R s).map (UP a.ex b.ex)) U rfl,Gl]
 .show _=Y (li a b (fst (TH strict L R) 0 (2*depth+1)));cases fst (TH strict L R) 0 (2*depth+1)<;>rfl
 intro s C u _;rw[EY (a:=0) (b:=(L.length:Int)) (λ_=>(⟨DB,DB,⟨[],[]⟩⟩:pr)) (λi=>(fst (QZ strict L R s i) 0 R.length).map (UP a.ex b.ex)) U rfl,Gl,Z7]
 .rfl
 intro i w i1 _;rw[AD w d!,bs,D8 w i1,EY (a:=0) (b:=(R.length:Int)) (λ_=>(⟨DB,DB,⟨[],[]⟩⟩:pr)) (λk=>(QZ strict L R s i k).map (UP a.ex b.ex)) U rfl,Gl,Z7]
 grind [vU]
theorem kS(f:Uy t rules a b)(wa:G0 a.ex)(wb:G0 b.ex):Nf t rules a b depth strict=Y (G2 t rules a b depth strict):=by
 have w:OD t rules a b depth=Y (if E7 t rules a b≠0 then E7 t rules a b else if depth<0\/4<depth then 6 else if 8<a.ex.dr.dl.length\/8<b.ex.dr.dl.length then 3 else 0):=by
  unfold OD;rw[bc f.hf f.hr,bs];by_cases h:Du t rules=0
  case neg=>rw[wP h,a6 q_,a6 h]
  rw [ac q_,gU f.hf f.fa f.ka wa,bs,gU f.hf f.fb f.kb wb];simp only[bs];rw[Iq (λ_=>rfl),bs];by_cases A:(Gy t a&&Gy t b)=T
  .rw[wQ h A,a6 (by cases u:Gy t a<;>cases z:Gy t b<;>simp_all),a6 a!]
  simp only[D!,ne]at A;rw[wR h A,ac (by simp[A.1,A.2]),TY (V1 f.hf f.fa f.ka A.1).1 (V1 f.hf f.fb f.kb A.2).1,bs];by_cases he:a.fl=b.fl
  case neg=>rw[ac he,a6 u',a6 a!]
  rw [a6 he,ac u',ac (c:=(0:Int)≠0) a!];by_cases u:depth<0\/4<depth
  .rw[a6 u,a6 g_]
  rw [ac u,ac g_];by_cases z:8<a.ex.dr.dl.length\/8<b.ex.dr.dl.length
  .rw[a6 z,a6 a_]
  .rw[ac z,ac a_]
 unfold Nf;by_cases hv:E7 t rules a b=0
 case neg=>rw[a6 hv]at w;rw[eF hv,w,bs,a6 l!];rfl
 rw [ac l!]at w;by_cases u:depth<0\/4<depth
 .rw[a6 u]at w;rw[eG hv u,w,bs,a6 V];rfl
 rw [ac u]at w;by_cases z:8<a.ex.dr.dl.length\/8<b.ex.dr.dl.length
 .rw[a6 z]at w;rw[eH hv u z,w,bs,a6 V];rfl
 rw [ac z]at w;have v:=Um hv;have g:=Pv f v;rw[eJ hv u z,w,bs,ac V,ov v.eq g.ta g.tb g.wa g.wb,bs,gk g.pa g.ta,bs];have F:Il t rules ⟨[],a.ex,DP a (J7 a b)⟩ depth=Y (Nw I1 (Rd t rules a b depth)):=gf f.hf f.hr g.ga g.ma U U;have s2:Il t rules ⟨[],b.ex,DP b (J7 a b)⟩ depth=Y (Nw I1 (Pq t rules a b depth)):=gf f.hf f.hr g.gb g.mb U U;dsimp only;rw[F,bs];cases G:Rd t rules a b depth with
 |none=>rfl|some L=>
 rw [ac (by simp[Nw]),gk g.pb g.tb,bs,s2,bs];cases H:Pq t rules a b depth with
 |none=>rfl|some R=>
 rw [ac (by simp[Nw])];obtain⟨_,_,E⟩:=TG f v U U G H;dsimp only[Nw];rw[wY (a:=0) (b:=2*depth+1) (⟨DB,DB,⟨[],[]⟩⟩:pr) (λs=>(TH strict L R s).map (UP a.ex b.ex)) U,Gl]
 .show _=Y (li a b (fst (TH strict L R) 0 (2*depth+1)));cases fst (TH strict L R) 0 (2*depth+1)<;>rfl
 .intro s K F;dsimp only;rw[A1 (n:=2*depth) U U,a6 a_,c9,c9,A1 (n:=s+1) U U,
   EY (a:=0) (b:=(L.length:Int)) (λ_=>(⟨DB,DB,⟨[],[]⟩⟩:pr)) (λi=>(fst (QZ strict L R s i) 0 R.length).map (UP a.ex b.ex)) U rfl,Gl]
  .show ei (Y (iM _ ((TH strict L R s).map (UP a.ex b.ex)))) _ _=_;cases TH strict L R s<;>rfl
  intro i B i1 _;rw[EY (a:=0) (b:=(R.length:Int)) (λ_=>(⟨DB,DB,⟨[],[]⟩⟩:pr)) (λk=>(QZ strict L R s i k).map (UP a.ex b.ex)) U rfl,Gl,Z7];intro k C D _;obtain⟨I,M⟩:=E.l _ (AI B i1);obtain⟨J,N⟩:=E.r _ (AI C D);have hi:=E.inn _ (AI B i1) _ (AI C D);rw[AD B d!,bs,D8 B i1,AD C (by simpa using D),bs,D8 C D];simp only[bs];unfold QZ;by_cases e:((AA L i).gx.length:Int)+(AA R k).gx.length=s
  case neg=>
   rw [ac e,a6]
   .rfl
   .show(!decide (At (((AA L i).gx.length:Int)+(AA R k).gx.length)=s))=X;rw[A1 U U];simp[e]
  rw [a6 e,ac,o5 hi I J,bs,Vh g.ta.sm,Vh g.tb.sm]
  .cases Rb strict (AA L i) (AA R k)<;>rfl
  .show¬(!decide (At (((AA L i).gx.length:Int)+(AA R k).gx.length)=s))=X;rw[A1 U U];simp[e]
 .dsimp only;rw[A1 (n:=2*depth) U U,ac a_]
end
end Go.Sf.Sc
namespace Go.Sf.Sc
open Go Go.Sf
section
variable{t:AC}{rules:List eh}{a b:AR}{depth:Int}{strict:Bool}
theorem um(f:Uy t rules a b)(e:(G2 t rules a b depth strict).2=0):∃L R r,U0 t rules a b/\(0<=depth/\depth<=4)/\Rd t rules a b depth=Y L/\Pq t rules a b depth=Y R/\Yr strict L R depth=Y r/\G2 t rules a b depth strict=UP a.ex b.ex r:=by
 by_cases hv:E7 t rules a b=0
 case neg=>rw[eF hv]at e;exact absurd e hv
 by_cases z:depth<0\/4<depth
 .grind[eG]
 by_cases A:8<a.ex.dr.dl.length\/8<b.ex.dr.dl.length
 .grind[eH]
 rw [eJ hv z A]at e|-;cases u:Rd t rules a b depth with
 |none=>rw[u]at e;cases e
 |some L=>
 cases v:Pq t rules a b depth with
 |none=>rw[u,v]at e;cases e
 |some R=>
 rw [u,v]at e;dsimp only at e|-;cases w:Yr strict L R depth with
 |none=>rw[w]at e;cases e
 |some r=>exact⟨L,R,r,Um hv,U,rfl,rfl,w,rfl⟩
theorem lr:((G2 t rules a b depth strict).1.fu.gp=a.ex/\(G2 t rules a b depth strict).1.ec.gp=b.ex)\/(G2 t rules a b depth strict).1=Qq:=by
 unfold G2;split
 .exact .inr rfl
 split
 .exact .inr rfl
 split
 .exact .inr rfl
 split
 .rename_i L R _ _;cases Yr strict L R depth with
  |none=>exact .inr rfl|some r=>exact .inl ⟨rfl,rfl⟩
 .exact .inr rfl
theorem rL(f:Uy t rules a b)(v:U0 t rules a b){j:pr}(A:j.fu.gp=a.ex)(B:j.ec.gp=b.ex)(C:(JN t rules j.fu).2.2=0)(D:(JN t rules j.ec).2.2=0)(e:S7 (JN t rules j.fu).1 (JN t rules j.ec).1 j.Iso)(i1:j.Iso.dl.length<=1000)(i2:j.Iso.d3.length<=1000):
  HV t rules a b j=Y (X,Te a b (J7 a b) (JN t rules j.fu).2.1 (JN t rules j.ec).2.1 j.Iso):=by
 have g:=Pv f v;have hv:(if Du t rules≠0 then Du t rules else if(Gy t a&&Gy t b)=T then 1 else if a.fl=b.fl then 0 else 8)=(0:Int):=by
  rw [ac (by simp[v.rz]),ac (by simp[v.ca,v.cb]),a6 v.eq]
 unfold HV;rw[gJ f.hf f.hr f.fa f.ka f.fb f.kb,hv,bs,KB (λ_=>Ry _ _),bs,KB (λ_=>Ry _ _),bs,
  ac (by simp[A,B]),kG f.hf f.hr,bs,kG f.hf f.hr,bs,ac (by simp[C,D])]
 have fx:=nu f.hf f.hr C;have fy:=nu f.hf f.hr D;obtain⟨G,u,w⟩:=VN fx.ok;obtain⟨H,z,_⟩:=VN fy.ok;obtain⟨I,E,F⟩:=yN fx.small fy.small u z w j.Iso;have hb:=F.2 (jw e fx.small fy.small u z w);subst hb;rw[E,bs,bs,ac (show¬(!X)=X by decide),Va v.eq g.ta g.tb g.wa.s,bs];exact va ⟨g.ta,g.tb,g.pa,g.pb,⟨_,A,fx⟩,⟨_,B,fy⟩,(jw e fx.small fy.small u z w).1,i1,i2,g.ta.sm,g.tb.sm⟩
theorem oB(p q:d4):hasB ([p.dl,p.d3,q.dl,q.d3].flatten) (-1)=(Aai p||Aai q):=by grind[Aai,List.flatten_cons,List.flatten_nil,uw,Bool.or_assoc]
theorem X8(f:Uy t rules a b)(e:(G2 t rules a b depth strict).2=0):∃s,HV t rules a b (G2 t rules a b depth strict).1=Y (X,s)/\(strict=X->s=X):=by
 obtain ⟨L,R,r,v,hd,K,M,N,O⟩:=um f e;have g:=Pv f v;obtain⟨s,_,_,h,_⟩:=Cc N;obtain⟨_,w,B,C⟩:=tM h;obtain⟨F,gr,A⟩:=TG f v hd.1 hd.2 K M;have E:=aa (F _ B);have fr:=aa (gr _ C);obtain⟨z,_⟩:=A.l _ B;obtain⟨G,_⟩:=A.r _ C;have hi:=A.inn _ B _ C;have u:S7 r.1.kp r.2.1.kp r.2.2/\(strict=X->Aai r.1.ll=T/\Aai r.2.1.ll=T/\OU r.1.ll.dl r.2.1.ll.dl r.2.2.dl/\OU r.1.ll.d3 r.2.1.ll.d3 r.2.2.d3):=by
  unfold Rb at w;split at w
  .split at w
   .cases w
   .rename_i J;simp only[D_,not_or,C?]at J;obtain⟨a1,H,I⟩:=T5 hi w
    grind
  next D=>exact⟨(T5 (eY _) w).1,λk=>absurd k D⟩
 have l1:=u.1.nl;have l2:=u.1.el;have Q:=z.sm.ea;have S:=z.sm.eg;rw[O];refine⟨_,rL f v rfl rfl (by show(JN t rules ⟨a.ex,r.1.gx⟩).2.2=0;rw[E]) (by show(JN t rules ⟨b.ex,r.2.1.gx⟩).2.2=0;rw[fr]) (by show S7 (JN t rules ⟨a.ex,r.1.gx⟩).1 (JN t rules ⟨b.ex,r.2.1.gx⟩).1 r.2.2;rw[E,fr];exact u.1) (by show r.2.2.dl.length<=1000;omega) (by show r.2.2.d3.length<=1000;omega),λD=>?_⟩;obtain⟨a1,H,I,P⟩:=u.2 D;show Te a b (J7 a b) (JN t rules ⟨a.ex,r.1.gx⟩).2.1 (JN t rules ⟨b.ex,r.2.1.gx⟩).2.1 r.2.2=X;rw[E,fr];unfold Te;dsimp only;rw[<-(F _ B).ll,<-(gr _ C).ll,oB,ac (by simp[a1,H])];unfold Aai at a1;simp only[C']at a1;rw[Yz (by rw[z.nl,G.nl,A.nl]) (bM z.inn.node a1.1) I,Yz (by rw[z.el,G.el,A.el]) (bM z.inn.edge a1.2) P];simp
end
variable{d:Bi}
theorem pO(h:G0 d.gp):E2 d d=Y X:=by
 unfold E2;rw[TY h h,bs,ac V,Bk (λ_=>T) T]
 .rw[show kg (λ_=>T) 0 (d.ib.length:Int)=T from B6.2 λ_ _ _=>rfl];rfl
 grind [AD,gj]
theorem Y4{j:pr}(e:G0 j.fu.gp)(f:G0 j.ec.gp):IV j j=Y X:=by grind[IV,pO,WM]
variable{s:AR}
theorem Wf{t:AC}(st:(AK t).Sm)(u:(Br s).Sm)(v:(Br s).WF):∃b,FQ t s=Y b/\(b=X->H0 s.eh/\Do s.eh.d5<=40/\G0 s.ex):=by
 obtain ⟨A,w⟩:=jO u v;obtain⟨B,C,D⟩:=Se st;obtain⟨E,F,G⟩:=np (h:=s.ex);have z:∃b,Hd t s.eh s.fl=Y b/\(b=X->H0 s.eh/\Do s.eh.d5<=40):=by
  cases B with
  |false=>exact⟨T,by unfold Hd;rw[C];rfl,λh=>c_⟩
  |true=>
   obtain ⟨b,e,f⟩:=j5 (D rfl) st A s.fl;exact⟨b,e,f⟩
 obtain ⟨H,I,J⟩:=z;unfold FQ Nd Ju;rw[I,bs];cases H with
 |false=>exact⟨T,rfl,λh=>c_⟩
 |true=>
 obtain ⟨K,M⟩:=J rfl;rw[a6 rfl,F,bs,bs];cases E with
 |false=>exact⟨T,rfl,λh=>c_⟩
 |true=>
 refine ⟨_,by simp only[bs,if_true];rw[db rfl,bs,db rfl,bs],λ_=>⟨K,M,G rfl,w⟩⟩
theorem y9{t:AC}{rules:List eh}{a b:AR}{depth:Int}{e f u:Bool}(v:MA t rules a.fl=Y e)(w:FQ t a=Y f)(z:FQ t b=Y u):∃c,KQ t rules a b depth=Y c/\(c=X->e=X/\f=X/\u=X):=by
 unfold KQ Nh;rw[v,bs,KB (λ_=>w),bs,KB (λ_=>z),bs,KB (λ_=>rfl),bs,KB (λ_=>rfl),bs];split
 .exact⟨T,rfl,λh=>c_⟩
 .rename_i h;simp only[D_,not_or,C?,Bool.not_eq_false']at h;obtain⟨⟨⟨⟨B,C⟩,D⟩,_⟩,_⟩:=h;rw[Bk (λi=>!((((decide (((AA rules i).fu.dr.dl.length:Int)<=2))&&(decide (((AA rules i).fu.dr.d3.length:Int)<=2)))&&(decide (((AA rules i).ec.dr.dl.length:Int)<=(At (((AA rules i).fu.dr.dl.length:Int)+1)))))&&(decide (((AA rules i).ec.dr.d3.length:Int)<=(At (((AA rules i).fu.dr.d3.length:Int)+1)))))) T]
  .split
   .exact⟨T,rfl,λh=>c_⟩
   .exact⟨_,rfl,λ_=>⟨B,C,D⟩⟩
  .intro i A i1 _;rw[AD A i1,bs,bs];split<;>rfl
theorem WY{t:AC}{x:K7}{depth:Int}(st:(AK t).Sm)(v:(EP x).Sm)(w:(EP x).WF):∃c,KQ t x.Aao x.A x.B depth=Y c/\(c=X->Uy t x.Aao x.A x.B/\G0 x.A.ex/\G0 x.B.ex):=by
 have f:TV.Sms (_::_):=v;have u:TV.p0 (_::_):=w;have z:(Br x.A).Sm:=Uh 38 f.2;have C:(Br x.B).Sm:=Uh 38 (iL 38 f.2);have D:(Br x.A).WF:=Xj 38 u.2;have E:(Br x.B).WF:=Xj 38 (Xh 38 u.2);have F:=(NS (e:=B3) f.1).2;obtain⟨η,G,H⟩:=vB st F x.A.fl;obtain⟨ζ,I,J⟩:=Wf st z D;obtain⟨δ,K,M⟩:=Wf st C E;obtain⟨c,e,k⟩:=y9 (depth:=depth) G I K;refine⟨c,e,λh=>?_⟩;obtain⟨N,O,P⟩:=k h;obtain⟨hf,hr⟩:=H N;obtain⟨a1,Q,S⟩:=J O;obtain⟨θ,ε,κ⟩:=M P;exact⟨⟨hf,hr,a1,Q,θ,ε⟩,S,κ⟩
theorem cF:G0 DB.gp:=⟨⟨by simp[DB],by simp[DB],by simp[DB],λv hv=>by simp[DB]at hv⟩,λv hv=>by simp[DB]at hv⟩
theorem Sg{t:AC}{rules:List eh}{a b:AR}{depth:Int}{strict:Bool}(wa:G0 a.ex)(wb:G0 b.ex):IV (G2 t rules a b depth strict).1 (G2 t rules a b depth strict).1=Y X:=by
 rcases lr (t:=t) (rules:=rules) (a:=a) (b:=b) (depth:=depth) (strict:=strict)with h|h
 .grind[Y4]
 .rw[h];exact Y4 cF cF
theorem cT(t:AC)(x:K7)(depth:Int)(st:(AK t).Sm)(v:(EP x).Sm)(w:(EP x).WF):NR t x depth=Y X:=by
 obtain ⟨c,e,k⟩:=WY (depth:=depth) st v w;unfold NR Sp Rj;rw[de,bs,KB (λ_=>e),bs];by_cases h:(!X||!c)=X
 .rw[a6 h,bs]
 rw [ac h];obtain⟨f,wa,wb⟩:=k c?;rw[kH f,bs,bs,kS f wa wb,bs,bs,KB (λ_=>Sg wa wb),bs];dsimp only;by_cases u:(G2 t x.Aao x.A x.B depth T).2=0
 .obtain⟨s,z,_⟩:=X8 f u;rw[ac k?,z,bs]
 .rw[a6 k?,a6 V,Sg wa wb];rfl
theorem Yt(t:AC)(x:K7)(depth:Int)(st:(AK t).Sm)(v:(EP x).Sm)(w:(EP x).WF):LQ t x depth=Y X:=by
 obtain ⟨c,e,k⟩:=WY (depth:=depth) st v w;unfold LQ KC Po;rw[de,bs,KB (λ_=>e),bs];by_cases h:(!X||!c)=X
 .rw[a6 h,bs]
 rw [ac h];obtain⟨f,wa,wb⟩:=k c?;rw[kH f,bs,bs,kS f wa wb,bs,bs,KB (λ_=>Sg wa wb),bs];dsimp only;by_cases u:(G2 t x.Aao x.A x.B depth X).2=0
 .obtain⟨s,z,C⟩:=X8 f u;rw[ac k?,z,bs,C rfl];rfl
 .rw[a6 k?,a6 V,Sg wa wb];rfl
end Go.Sf.Sc
