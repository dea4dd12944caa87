/- Plain lemmas: what the functions of the program and of the reference compute. -/
import Derived.Test.YthcncnllajfkfaaGreatP96
set_option linter.all false
set_option maxRecDepth 100000
open Option renaming some->Y,none->W
open Bool renaming true->X,false->T
open List renaming mem_cons->v5,mem_cons_of_mem->v6,any_eq_true->v_,any_eq_false->v!,mem_append->v?,mem_map->w_,getElem?_modify->w!,getElem?_eq_getElem->w?,length_set->x_,getD_eq_getElem?_getD->x!,zip_map'->x?,map_id->y_,replicate->y!,take_length->y?,countP_cons->z_,take_of_length_le->z!,take_take->z?,mem_singleton->A_,flatten_append->A',take_zero->A!,take_append_of_le_length->A?,getElem_zip->B_,length_replicate->B',map_congr_left->B!,all_cons->B?,flatMap_cons->C_,append_nil->C',map->C!,length_filter_le->C?
open Bool renaming not_eq_true'->D_,or_eq_false_iff->D',eq_false_iff->D!,not_eq_true->D?,or_eq_true->E_,true_and->E',false_and->E!,not_eq_false->E?
open Classical renaming not_not->F_,byContradiction->F!
open Int renaming eq_ofNat_of_zero_le->F?,toNat_natCast->G_,lt_or_le->G!
namespace Go.Sf.Sc
open Go Go.Sf
variable{k:Int}
theorem bu{t:AC}(f:FT t k){c:Int}:∀(n m:Nat)(a b:Int),a<k->a<n->b<m->b∈Ko t n a->c∈Ko t m b->c∈Ko t n a
 |0,_,_,_,_,_,_,hb,_=>by simp[Ko]at hb|n+1,m,a,b,ha,w,v,hb,u=>by
  rw [Ko]at hb|-;split at hb
  .cases hb
  .rename_i h0;rw[ac h0];have z:=f a U ha;rcases v5.1 hb with rfl|hb
   .have e:=pi f m (n+1) b ha v w;rw[e,Ko,ac h0]at u;exact u
   .exact v6 _ (bu f n m (par t a) b U U v hb u)
theorem aw{t:AC}(h:Fv t){a b c:Int}(ha:a<t.dl.length)(f:HD t a b=X)(u:HD t b c=X):HD t a c=X:=by
 unfold HD at f u|-;rw[v_]at f u|-;obtain⟨x,w,e⟩:=f;obtain⟨y,z,v⟩:=u;rw[sA]at e v;subst e;subst v;exact⟨c,bu h.par _ _ a b ha U U w z,V⟩
theorem qW{t:AC}(h:Fv t){e f g v w:Int}(hf:0<=v/\v<t.dl.length)(z:0<=w/\w<t.dl.length)(A:HD t v f=X)(B:HD t w g=X)(u:OA t e f g=X):OA t e v w=X:=by
 unfold OA at u|-;simp only[ne,ND]at u|-;exact⟨⟨⟨u.1.1.1,hf,z⟩,u.1.2⟩,aw h hf.2 A u.2.1,aw h z.2 B u.2.2⟩
end Go.Sf.Sc
namespace Go.Sf.Sc
open Go Go.Sf
variable{r:eg}
theorem iA{t:AC}(h:EI t r=0):(∀x∈E4 r,(AA t.dl (AA r.ec.dr.dl x)).up=T)/\∀x∈K9 r,Jz t r.ec.dr x=X:=by
 have e:XC t r.ec.dr (E4 r) (K9 r)=X:=by grind[EI]
 unfold XC at e;rw[ne,D_,D_,v!,v!]at e;exact⟨λx f=>by simpa using e.1 x f,λx f=>by simpa using e.2 x f⟩
abbrev gS(t:AC)(r:eg)(h:AF)(m:AP):AF:=Cs t r (CM h (dS r h m)) (cS r h m)
variable{h:AF}
theorem IP.eh{t:AC}{m:AP}(s:IP t r h m):∀e∈(gS t r h m).dr.d3,((0<=e.hV/\e.hV<(gS t r h m).dr.dl.length)/\0<=e.To/\e.To<(gS t r h m).dr.dl.length)/\OA t e.ia (AA (gS t r h m).dr.dl e.hV) (AA (gS t r h m).dr.dl e.To)=X:=by
 intro e he;have el:(gS t r h m).dr.dl=(dS r h m).dl.map (AA h.dr.dl)++(E4 r).map (AA r.ec.dr.dl):=rfl;have he:e∈(dS r h m).d3.map (λx=>XD (Gq h (dS r h m)).dl (AA h.dr.d3 x))++(K9 r).map (λk=>XD (cS r h m).dl (AA r.ec.dr.d3 k)):=he;rcases v?.1 he with he|he
 .obtain⟨x,D,rfl⟩:=w_.1 he;have C:=VU (gF s.part).2;have u:=C.eh.1 x D;have f:=C.ends x D;have hf:=(s.hh.g.fit _ (AI u.1 u.2)).2;have I:=(T5 s.he).2 x u.1 u.2;have fit:Jz t h.dr x=X:=by
   unfold Lh at I
   grind
  have at_:∀y,y∈(dS r h m).dl->0<=y->y<h.dr.dl.length->(0<=AA (Gq h (dS r h m)).dl y/\AA (Gq h (dS r h m)).dl y<(gS t r h m).dr.dl.length)/\AA (gS t r h m).dr.dl (AA (Gq h (dS r h m)).dl y)=AA h.dr.dl y:=λy F G H=>by
   have hi:=JH F;rw[show AA (Gq h (dS r h m)).dl y=DY (dS r h m).dl y from Ua G H,el,az,c9];refine⟨⟨hi.1,by have:=hi.2.1;push_cast;omega⟩,?_⟩;rw[nN hi.1 (by rw[c9];exact hi.2.1),Dy hi.1 hi.2.1,hi.2.2.1]
  obtain ⟨a1,A⟩:=at_ _ f.1 hf.1.1 hf.1.2;obtain⟨z,B⟩:=at_ _ f.2 hf.2.1 hf.2.2;refine⟨⟨a1,z⟩,?_⟩;simp only[XD];rw[A,B];exact fit
 .obtain⟨k,E,rfl⟩:=w_.1 he;have v:0<=k/\k<r.ec.dr.d3.length:=Gk E;have hf:=(s.ro.right.fit _ (AI v.1 v.2)).2;obtain⟨a1,J,A⟩:=s.Abu hf.1.1 hf.1.2;obtain⟨z,K,B⟩:=s.Abu hf.2.1 hf.2.2;have w:=s.put.kind;refine⟨⟨a1,z⟩,?_⟩;exact qW (Cw s.hv) ⟨(w _ (AI a1.1 a1.2)).1,J⟩ ⟨(w _ (AI z.1 z.2)).1,K⟩ A B ((iA s.re).2 k E)
end Go.Sf.Sc
namespace Go.Sf.Sc
open Go Go.Sf
def lC(t:AC)(k:Int)(v:Fp):Prop:=v.length=(BA t k).length/\∀j:Int,0<=j->j<v.length->(AA (BA t k) j).Low<=AA v j/\AA v j<=(AA (BA t k) j).z5
def Xi(t:AC)(g:dr)(κ:List Fp):Prop:=κ.length=g.dl.length/\∀i:Int,0<=i->i<g.dl.length->lC t (AA g.dl i) (AA κ i)
variable{x:AF}
theorem nv{t:AC}{κ:List Fp}(h:Xi t x.dr κ){p:(Int×Int)×Int}(z:Nh t x p=T):Xi t x.dr (Cb κ p):=by
 unfold Cb;split
 .rename_i h0;refine⟨by rw[List.length_modify];exact h.1,λi A i1=>?_⟩;have hi:=h.2 i A i1;by_cases e:i=p.1.1
  .have f:AA (κ.modify p.1.1.toNat λr=>r.set p.1.2.toNat p.2) i=(AA κ i).set p.1.2.toNat p.2:=by
    have:=h.1;subst e;simp[AA,w!,w? (show p.1.1.toNat<κ.length by omega)]
   rw [f];refine⟨by rw[x_];exact hi.1,λj v w=>?_⟩;rw[x_]at w;by_cases u:j=p.1.2
   .rw[show AA ((AA κ i).set p.1.2.toNat p.2) j=p.2 by rw[u];exact Vr p.2 h0.2 U,u,e];simp[Nh]at z;omega
   .rw[show AA ((AA κ i).set p.1.2.toNat p.2) j=AA (AA κ i) j from Vs p.2 h0.2 v u];exact hi.2 j v w
  .have f:AA (κ.modify p.1.1.toNat λr=>r.set p.1.2.toNat p.2) i=AA κ i:=by
    simp [AA,x!,w!,show¬p.1.1.toNat=i.toNat by omega]
   rw [f];exact hi
 .exact h
theorem am{t:AC}:∀(L:Bf){κ:List Fp},Xi t x.dr κ->L.any (Nh t x)=T->Xi t x.dr (L.foldl Cb κ)
 |[],_,h,_=>h|p::L,κ,h,e=>by
  rw [List.any_cons,D']at e;exact am L (nv h e.1) e.2
variable{r:eg}{h:AF}
theorem IP.ea{t:AC}{m:AP}(s:IP t r h m):(∀n∈(gS t r h m).dr.dl,(AA t.dl n).up=T)/\∀v n,(n,v)∈(gS t r h m).dr.dl.zip (gS t r h m).eb->lC t n v:=by
 have F:=Cw s.hv;have el:(gS t r h m).dr.dl=(dS r h m).dl.map (AA h.dr.dl)++(E4 r).map (AA r.ec.dr.dl):=rfl;have ev:(gS t r h m).eb=(dS r h m).dl.map (AA h.eb)++(E4 r).map (λk=>VG t (AA r.ec.dr.dl k)):=rfl;have old:∀x∈(dS r h m).dl,(AA t.dl (AA h.dr.dl x)).up=T/\lC t (AA h.dr.dl x) (AA h.eb x):=λx f=>by
  have f:=s.rem.ea.1 x f;have u:=(T5 s.he).1 x f.1 f.2;unfold H7 at u;split at u
  .cases u
  split at u
  .cases u
  split at u
  .cases u
  split at u
  .cases u
  rename_i a1 G H I;refine⟨by simpa using G,F_.1 H,λj C D=>?_⟩;have:=Bw.1 (by simpa using I) j C U;simp[SB]at this;omega
 have new:∀k∈E4 r,lC t (AA r.ec.dr.dl k) (VG t (AA r.ec.dr.dl k)):=λk E=>by
  have A:0<=k/\k<r.ec.dr.dl.length:=Gk E;have B:=(Hx s.ro.right s.ro.Aa4).1 _ (AI A.1 A.2);refine⟨by simp[VG],λj C D=>?_⟩;simp only[VG,c9]at D|-;have:=aB s.hf F B.1 B.2 _ (AI C D);rw[show AA ((BA t (AA r.ec.dr.dl k)).map λx=>x.Low) j=(AA (BA t (AA r.ec.dr.dl k)) j).Low by grind[AA,w?]];omega
 refine ⟨λn z=>?_,λv n w=>?_⟩
 .rw[el]at z;rcases v?.1 z with z|z
  .obtain⟨x,f,rfl⟩:=w_.1 z;exact(old x f).1
  .obtain⟨k,E,rfl⟩:=w_.1 z;exact(iA s.re).1 k E
 .rw[el,ev,List.zip_append V]at w;rcases v?.1 w with w|w
  .rw[x?,w_]at w;obtain⟨x,f,e⟩:=w;cases e;exact(old x f).2
  .rw[x?,w_]at w;obtain⟨x,f,e⟩:=w;cases e;exact new x f
end Go.Sf.Sc
namespace Go.Sf.Sc
open Go Go.Sf
variable{α β:Type}{i:Int}
theorem zO[Inhabited α][Inhabited β]{a:List α}{b:List β}(e:0<=i)(f:i<a.length)(u:i<b.length):(AA a i,AA b i)∈a.zip b:=by
 refine List.mem_of_getElem? (i:=i.toNat) ?_;rw[List.getElem?_zip_eq_some]
 grind [AA,w?]
variable{r:eg}{h:AF}
theorem WM{t:AC}{m:AP}(s:Qi t r h m):EH t (O1 t r h m)=(-1,0):=by
 have f:=s.f;have hv:=f.hv;have w:=Cw hv;have put:=f.put;have ed:=f.eh;obtain⟨E,F⟩:=f.ea;have J:=w.ea;have K:=w.eh;have u:Xi t (gS t r h m).dr (gS t r h m).eb:=⟨put.AbM,λi v i1=>F _ _ (zO v i1 (by rw[put.AbM];exact i1))⟩;have good:=am (x:=gS t r h m) _ u (gH s.put).2;have z:∀e∈(gS t r h m).dr.d3,0<=e.ia/\e.ia<t.d3.length:=λe he=>by
  have:=(ed e he).2;unfold OA at this;simp only[ne,sA]at this;exact this.1.2
 have go:Dw (gS t r h m).dr:=⟨s.few.1,s.few.2,λn C=>by have:=put.kind n C;omega,λe he=>⟨by have:=z e he;omega,(ed e he).1⟩⟩;have D:(O1 t r h m).dr=(gS t r h m).dr:=rfl;have ev:(O1 t r h m).eb=(CN r (cS r h m) m.ey).foldl Cb (gS t r h m).eb:=rfl;unfold EH;rw[ac l?,D,ev,ac (by simp[YG go]),ac (by simpa using good.1),BU.2]
 .dsimp only;rw[BU.2]
  .rfl
  intro i v i1;have A:=AI v i1;have B:Lh t (gS t r h m).dr i=0:=by
   unfold Lh Jz;rw[ac (by have:=z _ A;omega),(ed _ A).2];rfl
  rw [B];rfl
 .intro i v i1;have A:=AI v i1;obtain⟨G,H⟩:=good.2 i v i1;have B:H7 t (AA (gS t r h m).dr.dl i) (AA ((CN r (cS r h m) m.ey).foldl Cb (gS t r h m).eb) i)=0:=by
   unfold H7;rw[ac (by have:=put.kind _ A;omega),ac (by simp[E _ A]),ac (by simpa using G),ac];rw[EU];rintro⟨j,I,M,e⟩;have:=H j I U;simp[SB]at e;omega
  rw [B];rfl
end Go.Sf.Sc
namespace Go.Sf.Sc
open Go Go.Sf
variable{h:AF}
theorem vo{t:AC}{rules:List eg}(v:Gt t rules h=0):(∀r∈rules,EI t r=0)/\(EH t h).2=0:=by
 have e:Dj t rules=0/\(EH t h).2=0:=by grind[Gt]
 refine ⟨λr hr=>?_,e.2⟩;obtain⟨i,u,i1,rfl⟩:=BW hr;have f:(fst (λi=>nz (EI t (AA rules i))) 0 rules.length).getD 0=0:=by grind[Dj]
 exact U7 f i u i1
variable{r:eg}
theorem uT{t:AC}(hf:Aq t)(f:EI t r=0)(e:(EH t h).2=0):(Ff t r h).2=0\/(Ff t r h).2=3:=by
 have v:RL t r h=0:=by unfold RL;simp[f,e]
 have u:=(UV f).1;have w:OF t r.fu h=0:=by unfold OF;simp[u,e]
 obtain ⟨hv,hh⟩:=Oh hf e;obtain⟨go,ty⟩:=oY u;have z:Et t r.fu.dr h.dr=0:=by unfold Et;simp[hv,YG go,hh.ge,ty,hh.ty]
 unfold Ff Li L9
 grind
end Go.Sf.Sc
namespace Go.Sf.Sc
open Go Go.Sf
variable{α:Type}{i:Int}
theorem ux[Inhabited α]{a r:List α}{x:α}(e:0<=i)(h:(a.length:Int)=i):AA (a++x::r) i=x:=by
 obtain ⟨n,rfl⟩:=F? e;obtain rfl:a.length=n:=U
 simp [AA]
theorem qt{a r:List α}{x y:α}(e:0<=i)(h:(a.length:Int)=i):BG (a++x::r) i y=a++y::r:=by
 obtain ⟨n,rfl⟩:=F? e;obtain rfl:a.length=n:=U
 simp [BG]
theorem P0(l:Fp)(v:Int):slices_Contains_int l v=Y (hasB l v):=Mb l v
variable{n:Nat}
theorem Yg(h:n<=1000):Kc n=Y (At n):=by
 unfold Kc;rw[Of (λ_=>X) id]
 .rw[bs,y_,List.filter_eq_self.2 λ_ _=>rfl]
 .intro i s e i1 f;rw[AV b_,bs,a6 rfl];rfl
variable{l:Fp}
theorem fj(u:l.length<=1000)(f:∀x∈l,0<=x):Jc l.length (At l.length) l=Y (l,X):=by
 unfold Jc DC;rw[a6 ⟨rfl,U,U⟩,bs,Au,EN (a:=0) (b:=(l.length:Int)) (λi=>l.take i.toNat++y! (l.length-i.toNat) (-1)) (λ_=>W) U V,BU.2 (λ_ _ _=>rfl)]
 .simp[iG,Br]
 intro i e i1 _;have v:=f _ (AI e i1);have ha:((l.take i.toNat).length:Int)=i:=e!
 have hr:y! (l.length-i.toNat) (-1:Int)=-1::y! (l.length-(i+1).toNat) (-1):=by
  rw [show l.length-i.toNat=(l.length-(i+1).toNat)+1 by omega];rfl
 rw [AD e (by rw[Au];exact i1),QD _ e i1,bs,AD e i1,bs,ac a_,ac a_,hr,AD e a_,bs,ux e ha,ac a!,bs,ac a!,bs,bs,qt e ha,BJ e i1];simp[Y0]
def M7(g:dr)(a b:Int):Nat:=g.d3.countP λe=>decide (e.hV=a)&&decide (e.To=b)
theorem UI{g:dr}(h:g.d3.length<=1000)(a b:Int):Jb g a b=Y (M7 g a b:Int):=by
 unfold Jb M7;have u:∀l:List CC,(l.countP λe=>decide (e.hV=a)&&decide (e.To=b))<=l.length:=λl=>List.countP_le_length;rw[Bo (λi=>(((g.d3.take i.toNat).countP λe=>decide (e.hV=a)&&decide (e.To=b)):Int)) U V]
 .rw[bs,G_,y?]
 intro i f i1;have:=u (g.d3.take i.toNat);rw[bk]at this;rw[AD f i1,bs,BJ f i1,List.countP_append];by_cases e:((decide ((AA g.d3 i).hV=a))&&(decide ((AA g.d3 i).To=b)))=X
 .rw[a6 e,Ar U U];simp[z_,e]
 .rw[ac e];simp[z_,e]
def jt(x y:AF)(mn:Fp)(l j:Int):Bool:=
 decide (M7 x.dr j l=M7 y.dr (AA mn j) (AA mn l))&&decide (M7 x.dr l j=M7 y.dr (AA mn l) (AA mn j))
def R5(x y:AF)(mn:Fp)(l:Int):Bool:=!kl (λj=>!jt x y mn l j) 0 (l+1)
variable{j:Int}
theorem t5(e:0<=j)(h:j<i):AA (l.take i.toNat) j=AA l j:=by
 unfold AA;rw[x!,x!,List.getElem?_take,a6 U]
variable{x y:AF}
theorem bK(f:x.dr.d3.length<=1000)(u:y.dr.d3.length<=1000){mn ns es me:Fp}(C:mn.length<=1000){l:Int}(v:0<=l)(l1:l<mn.length):
  Gw ⟨x,y,ns,es,⟨mn.take (l+1).toNat,me⟩⟩=Y (R5 x y mn l):=by
 unfold Gw;have B:((mn.take (l+1).toNat).length:Int)=l+1:=e!
 dsimp only;rw[B,show l+1-1=l by omega,Ar U U,BZ (λj=>!jt x y mn l j) T]
 .unfold R5;cases kl (λj=>!jt x y mn l j) 0 (l+1)<;>rfl
 intro j w A;rw[AD w U,bs,t5 w A,UI f,bs,AD v U,bs,t5 v U,UI u,bs,UI f,bs,bs,UI u,bs];unfold jt;by_cases e:M7 x.dr j l=M7 y.dr (AA mn j) (AA mn l)
 .rw[ac b?,bs];by_cases z:M7 x.dr l j=M7 y.dr (AA mn l) (AA mn j)
  .simp[e,z]
  .rw[a6 (by simp only[D_,decide_eq_false_iff_not];omega)];simp[e,z]
 .rw[a6 (by simp only[D_,decide_eq_false_iff_not];omega),bs,a6 rfl];simp[e]
def Q8(x y:AF)(m:d4)(i:Int):Bool:=
 decide (AA y.dr.d3 (AA m.d3 i)=⟨(AA x.dr.d3 i).ia,AA m.dl (AA x.dr.d3 i).hV,AA m.dl (AA x.dr.d3 i).To⟩)&&!hasB (m.d3.take i.toNat) (AA m.d3 i)
def RA(x y:AF)(m:d4)(i:Int):Bool:=
 decide (AA y.dr.dl (AA m.dl i)=AA x.dr.dl i)&&!hasB (m.dl.take i.toNat) (AA m.dl i)&&decide (AA x.eb i=AA y.eb (AA m.dl i))&&R5 x y m.dl i
structure Tb(x y:AF)(m:d4):Prop where
 nl:m.dl.length=x.dr.dl.length
 el:m.d3.length=x.dr.d3.length
 xn:x.dr.dl.length<=1000
 xe:x.dr.d3.length<=1000
 yn:y.dr.dl.length<=1000
 ye:y.dr.d3.length<=1000
 xv:x.eb.length=x.dr.dl.length
 yv:y.eb.length=y.dr.dl.length
 xends:∀e∈x.dr.d3,(0<=e.hV/\e.hV<x.dr.dl.length)/\0<=e.To/\e.To<x.dr.dl.length
 nin:∀k∈m.dl,0<=k/\k<y.dr.dl.length
 ein:∀k∈m.d3,0<=k/\k<y.dr.d3.length
abbrev HV(x y:AF)(m:d4)(n e:Int):BV:=⟨x,y,m.dl,m.d3,⟨m.dl.take n.toNat,m.d3.take e.toNat⟩⟩
variable{m:d4}
theorem fh(h:Tb x y m):∀(k:Nat)(i:Int),0<=i->i+k=x.dr.d3.length->∃b st,(∀n,k<n->Bp n (HV x y m x.dr.dl.length i)=Y (b,st))/\(b=X↔∀j:Int,i<=j->j<x.dr.d3.length->Q8 x y m j=X)/\(b=X->st.m=m)/\(b=T->st=HV x y m x.dr.dl.length i)
 |0,i,u,Q=>by
  have:=h.el;refine⟨X,HV x y m x.dr.dl.length i,λn A=>?_,⟨λ_ j E H=>U,λ_=>rfl⟩,λ_=>?_,λh=>c_⟩
  .obtain⟨n,rfl⟩:∃q,n=q+1:=⟨n-1,U⟩;rw[Bp,a6 (by simp[HV,bk];omega)]
  .have E:=h.nl;show d4.mk _ _=m;rw[z! U,z! U]
 |k+1,i,u,Q=>by
  have E:=h.nl;have H:=h.el;have S:=h.xe;have θ:=h.ye;obtain⟨b,st,K,M,N,O⟩:=fh h k (i+1) U U;have hi:=h.ein _ (AI u (l:=m.d3) U);have F:=h.xends _ (AI (l:=x.dr.d3) u U);have I:((m.d3.take i.toNat).length:Int)=i:=e!
  have key:∀n,k+1<n->Bp n (HV x y m x.dr.dl.length i)=Y (if(Q8 x y m i&&b)=X then(X,st)else(T,HV x y m x.dr.dl.length i)):=λn A=>by
   obtain ⟨n,rfl⟩:∃q,n=q+1:=⟨n-1,U⟩;rw[Bp];dsimp only;have nt:m.dl.take (x.dr.dl.length:Int).toNat=m.dl:=z! U;rw[I,nt,ac a_,AD u U,bs,AD F.1.1 U,bs,AD F.2.1 U,bs,
    EN (a:=0) (b:=(y.dr.d3.length:Int)) (λ_=>HV x y m x.dr.dl.length i) (λj=>if j=AA m.d3 i/\(Q8 x y m i&&b)=X then Y (X,st)else W) U (by rw[HV,nt])]
   .by_cases e:(Q8 x y m i&&b)=X
    .have hf:fst (λj=>if j=AA m.d3 i/\(Q8 x y m i&&b)=X then Y (X,st)else W) 0 (y.dr.d3.length:Int)=Y (X,st):=by
      cases hf:fst (λj=>if j=AA m.d3 i/\(Q8 x y m i&&b)=X then Y (X,st)else W) 0 (y.dr.d3.length:Int)with
      |none=>
       rw [BU]at hf;have:=hf _ hi.1 hi.2;simp[e]at this
      |some v=>
       obtain ⟨j,B,w,f,_⟩:=CQ hf;split at f
       .rw[<-f]
       .cases f
     rw [hf,a6 e];rfl
    .rw[ac e,BU.2 (λj B w=>ac (λk=>e k.2))];rfl
   .intro j B w _;dsimp only[HV];rw[nt,AD B w,bs,AD u U,bs,a6 (by simpa using hi.1),bs,bs];by_cases D:j=AA m.d3 i
    .subst D;by_cases z:AA y.dr.d3 (AA m.d3 i)=⟨(AA x.dr.d3 i).ia,AA m.dl (AA x.dr.d3 i).hV,AA m.dl (AA x.dr.d3 i).To⟩
     .rw[ac (by simp[z]),P0,bs,bs];by_cases f:hasB (m.d3.take i.toNat) (AA m.d3 i)=X
      .rw[a6 f,ac (by simp[Q8,f])];rfl
      .have J:Q8 x y m i=X:=by simp[Q8,z,f]
       rw [ac f,AV b_,bs,<-BJ u U];have G:=K n U;rw[HV,nt]at G;rw[G,bs,J];cases b with
       |true=>rw[a6 rfl,a6 ⟨rfl,rfl⟩];rfl|false=>
        obtain rfl:=O rfl;rw[ac V,HV,Hw U e!,bs,nt,z?];rw[show min i.toNat (i+1).toNat=i.toNat by omega,ac V];rfl
     .rw[a6 (by simp[z]),bs,a6 rfl,ac (by simp[Q8,z])];rfl
    .rw[a6 (by simp;exact .inl λk=>D k.symm),bs,a6 rfl,ac (λk=>D k.1)];rfl
  refine ⟨Q8 x y m i&&b,if(Q8 x y m i&&b)=X then st else HV x y m x.dr.dl.length i,λn A=>?_,?_,λe=>?_,λe=>?_⟩
  .rw[key n A];by_cases e:(Q8 x y m i&&b)=X
   .rw[a6 e,a6 e,e]
   .rw[ac e,ac e,D!.2 e]
  .rw[ne,M];constructor
   .rintro⟨a1,P⟩ j w C;by_cases e:j=i
    .exact e▸a1
    .exact P j U C
   .exact λa=>⟨a i U U,λj w C=>a j U C⟩
  .rw[a6 e];rw[ne]at e;exact N e.2
  .rw[ac (by rw[e];decide)]
end Go.Sf.Sc
namespace Go.Sf.Sc
open Go Go.Sf
variable{x y:AF}{m:d4}
theorem vD(h:Tb x y m):∃b st,Hz (HV x y m x.dr.dl.length 0)=Y (b,st)/\(b=X↔∀j:Int,0<=j->j<x.dr.d3.length->Q8 x y m j=X)/\(b=X->st.m=m)/\(b=T->st=HV x y m x.dr.dl.length 0):=by
 obtain ⟨b,st,e,f⟩:=fh h x.dr.d3.length 0 U U;exact⟨b,st,DK (x.dr.d3.length+1) λn u=>e n U,f⟩
def qk(x y:AF)(m:d4)(i:Int):Prop:=(∀j:Int,i<=j->j<x.dr.dl.length->RA x y m j=X)/\∀j:Int,0<=j->j<x.dr.d3.length->Q8 x y m j=X
theorem fv(h:Tb x y m):∀(k:Nat)(i:Int),0<=i->i+k=x.dr.dl.length->∃b st,(∀n,k<n->Bq n (HV x y m i 0)=Y (b,st))/\(b=X↔qk x y m i)/\(b=X->st.m=m)/\(b=T->st=HV x y m i 0)
 |0,i,u,κ=>by
  obtain ⟨b,st,e,G,H,I⟩:=vD h;obtain rfl:i=x.dr.dl.length:=U
  refine ⟨b,st,λn C=>?_,?_,H,I⟩
  .obtain⟨n,rfl⟩:∃q,n=q+1:=⟨n-1,U⟩;have J:=h.nl;rw[Bq,a6 (by simp[HV,bk];omega),e,bs]
  .rw[G];exact⟨λa=>⟨λj J M=>U,a⟩,λa=>a.2⟩
 |k+1,i,u,κ=>by
  have J:=h.nl;have M:=h.el;have N:=h.xe;have O:=h.ye;have η:=h.xn;have ζ:=h.yn;have δ:=h.xv;have Z:=h.yv;obtain⟨b,st,G,H,I,S⟩:=fv h k (i+1) U U;have hi:=h.nin _ (AI u (l:=m.dl) U);have P:((m.dl.take i.toNat).length:Int)=i:=e!
  have key:∀n,k+1<n->Bq n (HV x y m i 0)=Y (if(RA x y m i&&b)=X then(X,st)else(T,HV x y m i 0)):=λn C=>by
   obtain ⟨n,rfl⟩:∃q,n=q+1:=⟨n-1,U⟩;rw[Bq];dsimp only;rw[P,ac a_,EN (a:=0) (b:=(y.dr.dl.length:Int)) (λ_=>HV x y m i 0) (λj=>if j=AA m.dl i/\(RA x y m i&&b)=X then Y (X,st)else W) U rfl]
   .by_cases e:(RA x y m i&&b)=X
    .have hf:fst (λj=>if j=AA m.dl i/\(RA x y m i&&b)=X then Y (X,st)else W) 0 (y.dr.dl.length:Int)=Y (X,st):=by
      cases hf:fst (λj=>if j=AA m.dl i/\(RA x y m i&&b)=X then Y (X,st)else W) 0 (y.dr.dl.length:Int)with
      |none=>
       rw [BU]at hf;have:=hf _ hi.1 hi.2;simp[e]at this
      |some v=>
       obtain ⟨j,D,w,f,_⟩:=CQ hf;split at f
       .rw[<-f]
       .cases f
     rw [hf,a6 e];rfl
    .rw[ac e,BU.2 (λj D w=>ac (λk=>e k.2))];rfl
   .intro j D w _;dsimp only[HV];rw[AD D w,bs,AD u U,bs,a6 (by simpa using hi.1),bs,bs];by_cases F:j=AA m.dl i
    .subst F;rw[ac V,AD u U,bs,bs];by_cases z:AA y.dr.dl (AA m.dl i)=AA x.dr.dl i
     .rw[ac (by simp[z]),P0,bs,bs];by_cases f:hasB (m.dl.take i.toNat) (AA m.dl i)=X
      .rw[a6 f,bs,a6 rfl,ac (by simp[RA,f])];rfl
      .rw[ac f,AD u U,bs,AD hi.1 U,bs,KQ,bs,bs];by_cases A:AA x.eb i=AA y.eb (AA m.dl i)
       .rw[ac (by simp[A]),AV b_,bs,<-BJ u U,bK N O U u U,bs];by_cases B:R5 x y m.dl i=X
        .have Q:RA x y m i=X:=by simp[RA,z,f,A,B]
         rw [a6 B];have K:=G n U;rw[HV]at K;rw[K,bs,Q];cases b with
         |true=>rw[a6 rfl,a6 ⟨rfl,rfl⟩];rfl|false=>
          obtain rfl:=S rfl;rw[ac V,HV,Hw U e!,bs,z?,show min i.toNat (i+1).toNat=i.toNat by omega,ac V];rfl
        .rw[ac B,Hw U e!,bs,z?,show min i.toNat (i+1).toNat=i.toNat by omega,ac (by simp[RA,B])];rfl
       .rw[a6 (by simp[A]),ac (by simp[RA,A])];rfl
     .rw[a6 (by simp;exact λk=>z k),bs,a6 rfl,bs,a6 rfl,ac (by simp[RA,z])];rfl
    .rw[a6 (by simp;exact λk=>F k.symm),bs,a6 rfl,bs,a6 rfl,bs,a6 rfl,ac (λk=>F k.1)];rfl
  refine ⟨RA x y m i&&b,if(RA x y m i&&b)=X then st else HV x y m i 0,λn C=>?_,?_,λe=>?_,λe=>?_⟩
  .rw[key n C];by_cases e:(RA x y m i&&b)=X
   .rw[a6 e,a6 e,e]
   .rw[ac e,ac e,D!.2 e]
  .rw[ne,H];constructor
   .rintro⟨a1,θ,ε⟩;refine⟨λj w E=>?_,ε⟩;by_cases e:j=i
    .exact e▸a1
    .exact θ j U E
   .exact λa=>⟨a.1 i U U,λj w E=>a.1 j U E,a.2⟩
  .rw[a6 e];rw[ne]at e;exact I e.2
  .rw[ac (by rw[e];decide)]
variable{l:Fp}
theorem xf(B:l.length<=100000)(h:0<l.length):∃v,slices_Min_int l=Y v/\(v<0↔∃x∈l,x<0):=by
 unfold slices_Min_int;rw[ac a_,AD U U,bs];obtain⟨s,e,i1,i2⟩:=R1 (f:=λ(z:Int)(A:Int)=>
  (idx l z).bind λw=>
  Y (min A w)) (λi s=>s∈l.take i.toNat/\∀x∈l.take i.toNat,s<=x) (a:=1) (b:=(l.length:Int)) (s:=AA l 0) U (by
   have:=BJ (l:=l) (i:=0) U U;rw[show((0:Int)+1).toNat=1 by omega]at this;rw[show(1:Int).toNat=1 by omega,this];simp) (λi s z i1 hi=>by
   rw [AD U i1,bs];refine⟨_,rfl,?_⟩;rw[BJ U i1];refine⟨?_,λx u=>?_⟩
   .rcases Int.le_total s (AA l i)with h|h
    .rw[Int.min_eq_left h];exact List.mem_append_left _ hi.1
    .rw[Int.min_eq_right h];exact List.mem_append_right _ (A_.2 rfl)
   .rcases v?.1 u with u|u
    .have:=hi.2 x u;omega
    .rw[A_.1 u];omega)
 rw [G_,y?]at i1 i2;rw[e,bs];exact⟨s,rfl,λk=>⟨s,i1,k⟩,λ⟨x,u,k⟩=>by have:=i2 x u;omega⟩
theorem bI{e:List Fp}(h:e.flatten.length<=100000):E6 e=Y e.flatten:=by
 have cut:∀k:Nat,(e.take k).flatten.length<=e.flatten.length:=λk=>by
  conv=>rhs;rw[<-List.take_append_drop k e,A',az]
  omega
 have u:∀i:Int,0<=i->i<e.length->(e.take (i+1).toNat).flatten=(e.take i.toNat).flatten++AA e i:=λi f i1=>by
  rw [BJ f i1,A'];simp
 unfold E6 Jq;rw[Bo (λi=>((e.take i.toNat).flatten.length:Int)) U V,bs,G_,y?,a6 ⟨rfl,U,a?⟩,bs,Bo (λi=>(e.take i.toNat).flatten) U V,bs,G_,y?]
 .intro i f i1;have c:=cut (i+1).toNat
  rw [u i f i1,az]at c;rw[AD f i1,bs,AV a?,bs,u i f i1]
 .intro i f i1;have c:=cut (i+1).toNat
  rw [u i f i1,az]at c;rw[AD f i1,bs,Ar U U,ac a_,u i f i1,az];simp
theorem yD(F:DD x)(G:DD y)(xv:x.eb.length=x.dr.dl.length)(yv:y.eb.length=y.dr.dl.length)(ends:∀e∈x.dr.d3,(0<=e.hV/\e.hV<x.dr.dl.length)/\0<=e.To/\e.To<x.dr.dl.length)(m:d4):
  ∃b,Fr x y m=Y b/\(b=X↔Tb x y m/\x.dr.dl.length=y.dr.dl.length/\x.dr.d3.length=y.dr.d3.length/\qk x y m 0):=by
 have O:=F.ea;have P:=F.eh;have Q:=G.ea;have S:=G.eh;unfold Fr;by_cases H:m.dl.length=x.dr.dl.length
 case neg=>exact⟨T,by rw[a6 a_],by simp;exact λa=>absurd a.nl H⟩
 by_cases I:m.d3.length=x.dr.d3.length
 case neg=>exact⟨T,by rw[a6 a_],by simp;exact λa=>absurd a.el I⟩
 rw [ac a_,bI a_,bs,AV b_,bs];obtain⟨v,ev,hv⟩:=xf (l:=[m.dl,m.d3].flatten++[0]) a_ a_;rw[ev,bs];by_cases A:v<0
 .refine⟨T,by rw[a6 t!],by simp;rintro a;obtain⟨z,u,D⟩:=hv.1 A;simp at u;rcases u with u|u|u;(have:=a.nin z u;omega);(have:=a.ein z u;omega);omega⟩
 have pos:∀z,z∈m.dl\/z∈m.d3->0<=z:=λz u=>by
  rcases G! z 0 with k|k
  .exact absurd (hv.2 ⟨z,by simp;rcases u with u|u;exact .inl u;exact .inr (.inl u),k⟩) A
  .exact k
 rw [ac t!,Rz (f:=λE=>Jd E y) (p:=λk=>decide ((y.dr.dl.length:Int)<=k)) (λ_ _=>rfl),bs];by_cases B:m.dl.any (λk=>decide ((y.dr.dl.length:Int)<=k))=X
 .rw[a6 B,bs,a6 rfl];refine⟨T,rfl,by simp;rintro a;obtain⟨z,u,D⟩:=v_.1 B;have:=a.nin z u;simp at D;omega⟩
 rw [ac B,Rz (f:=λE=>Je E y) (p:=λk=>decide ((y.dr.d3.length:Int)<=k)) (λ_ _=>rfl),bs,bs];by_cases C:m.d3.any (λk=>decide ((y.dr.d3.length:Int)<=k))=X
 .rw[a6 C];refine⟨T,rfl,by simp;rintro a;obtain⟨z,u,D⟩:=v_.1 C;have:=a.ein z u;simp at D;omega⟩
 have inn:Tb x y m:=⟨H,I,O,P,Q,S,xv,yv,ends,λk w=>⟨pos k (.inl w),by
   rcases G! k y.dr.dl.length with a|a
   .exact a
   .exact absurd (v_.2 ⟨k,w,by simpa using a⟩) B⟩,λk w=>⟨pos k (.inr w),by
   rcases G! k y.dr.d3.length with a|a
   .exact a
   .exact absurd (v_.2 ⟨k,w,by simpa using a⟩) C⟩⟩
 rw [ac C,Yg U,bs,Yg U,bs];unfold Db;by_cases J:x.dr.dl.length=y.dr.dl.length
 case neg=>rw[a6 a_];exact⟨T,rfl,by simp;exact λ_ a=>absurd a J⟩
 by_cases K:x.dr.d3.length=y.dr.d3.length
 case neg=>rw[a6 a_];exact⟨T,rfl,by simp;exact λ_ _ a=>absurd a K⟩
 rw [ac a_,show(x.dr.dl.length:Int)=m.dl.length by omega,fj U (λz u=>pos z (.inl u)),bs,show(x.dr.d3.length:Int)=m.d3.length by omega,fj U (λz u=>pos z (.inr u)),bs,ac V];obtain⟨b,st,θ,N,ε,η⟩:=fv inn x.dr.dl.length 0 U U;have M:Ga (HV x y m 0 0)=Y (b,st):=DK (x.dr.dl.length+1) λn κ=>θ n U;simp only[HV,Int.toNat_zero,A!]at M;dsimp only;rw[M,bs,bs];dsimp only;cases b with
 |false=>exact⟨T,rfl,by simp;exact λ_ _ _ a=>absurd (N.2 a) a!⟩|true=>
  rw [a6 rfl,ε rfl,KQ,bs,bs,a6 V,KQ,bs,bs];refine⟨_,rfl,λ_=>⟨inn,J,K,N.1 rfl⟩,λ_=>V⟩
end Go.Sf.Sc
namespace Go.Sf.Sc
open Go Go.Sf
theorem tH(n:Nat):(At n).Nodup:=by
 unfold At;exact List.Pairwise.map _ (λa b h e=>h (Int.ofNat.inj e)) List.nodup_range
variable{l:Fp}{n:Nat}{i:Int}
theorem nM(f:l.Nodup)(v:l.length=n)(h:∀x∈l,0<=x/\x<n)(u:0<=i)(i1:i<n):i∈l:=by
 by_cases hi:i∈l
 .exact hi
 .have:=XE (l:=i::l) (n:=n) (List.nodup_cons.2 ⟨hi,f⟩) (λx e=>by
   rcases v5.1 e with rfl|e
   .exact⟨u,i1⟩
   .exact h x e)
  simp at this;omega
theorem KJ:l.Nodup↔∀i:Int,0<=i->i<l.length->hasB (l.take i.toNat) (AA l i)=T:=by
 rw [<-P1];unfold Jy;rw[D_,Bw];refine⟨λh i u i1=>?_,λh i u i1=>?_⟩
 .have:=h i u i1;rw[Bw]at this;rw[<-D?,CF];intro w;obtain⟨j,f,v,e⟩:=BW w;rw[bk]at v;have z:=this j f U;rw[t5 f U]at e;simp[e]at z
 .rw[Bw];intro j f v;have:=h i u i1;rw[<-D?,CF]at this;simp only[decide_eq_false_iff_not];intro e;refine this ?_;rw[e,<-t5 f v];exact AI f e!
theorem aF{x y:dr}{mn me:Fp}(nn:mn.length=x.dl.length)(nd:mn.Nodup)(E:me.length=x.d3.length)(ee:x.d3.length=y.d3.length)(ed:me.Nodup)(ein:∀k∈me,0<=k/\k<y.d3.length)
  (ends:∀e∈x.d3,(0<=e.hV/\e.hV<x.dl.length)/\0<=e.To/\e.To<x.dl.length)
  (edge:∀i:Int,0<=i->i<x.d3.length->AA y.d3 (AA me i)=⟨(AA x.d3 i).ia,AA mn (AA x.d3 i).hV,AA mn (AA x.d3 i).To⟩)
  {a b:Int}(a0:0<=a)(a1:a<x.dl.length)(F:0<=b)(G:b<x.dl.length):M7 x a b=M7 y (AA mn a) (AA mn b):=by
 have H:me.Perm (At y.d3.length):=(List.perm_ext_iff_of_nodup ed (tH _)).2 λk=>⟨λw=>Dm.2 (ein k w),λw=>nM ed U ein (Dm.1 w).1 (Dm.1 w).2⟩;have D:=H.map (AA y.d3);rw[Qx]at D;have I:x.d3.map (λe=>(⟨e.ia,AA mn e.hV,AA mn e.To⟩:CC))=me.map (AA y.d3):=by
  rw [YW x.d3,YW me,E];refine Ci λj f C=>?_;exact(edge j f C).symm
 unfold M7;rw[<-D.countP_eq,<-I,List.countP_map];refine List.countP_congr λe he=>?_;obtain⟨⟨J,K⟩,M,N⟩:=ends e he;have inj:∀{i j:Int},0<=i->i<x.dl.length->0<=j->j<x.dl.length->AA mn i=AA mn j->i=j:=λ{i j}z i1 f C e=>by
  by_cases A:i<j
  .have:=KJ.1 nd j f U;rw[<-D?,CF]at this;refine absurd ?_ this;rw[<-e,<-t5 z A];exact AI z e!
  by_cases B:j<i
  .have:=KJ.1 nd i z U;rw[<-D?,CF]at this;refine absurd ?_ this;rw[e,<-t5 f B];exact AI f e!
  omega
 simp only[Function.comp_apply,ne,sA];exact⟨λ⟨u,v⟩=>⟨by rw[u],by rw[v]⟩,λ⟨u,v⟩=>⟨inj J K a0 a1 u,inj M N F G v⟩⟩
end Go.Sf.Sc
namespace Go.Sf.Sc
open Go Go.Sf
noncomputable def Gp(t:AC)(st:AR):Bool:=decide ((EW t st.eg st.fl st.j0).2=0)&&jY (EW t st.eg st.fl st.j0).1 st
variable{st:AR}
theorem fe{t:AC}(hf:Aq t)(fr:Hq st.eg)(f:De st.eg.d5<=40):Jr t st=Y (Gp t st):=by
 unfold Jr Gp;rw[Yi hf fr f,bs];by_cases e:(EW t st.eg st.fl st.j0).2=0
 .rw[a6 b?,vO,bs,bs];simp[e]
 .rw[ac b?,bs];simp[e]
theorem gN{t:AC}(hf:Aq t)(fr:Hq st.eg)(f:De st.eg.d5<=40)(w:Gr st.ex):Lx t st=Y (Gp t st):=by
 unfold Lx Gp;rw[gc hf fr f,bs];by_cases e:(EW t st.eg st.fl st.j0).2=0
 .obtain⟨s,v⟩:=Td hf fr f e;have u:=b6 s;rw[a6 b?,v,vg u (b:=st) ⟨u.b,w⟩,bs,bs];simp
 .rw[ac b?,bs];simp[e]
theorem Vu{t:AC}(hf:Aq t)(fr:Hq st.eg)(v:De st.eg.d5<=40)(h:Gp t st=X):Gr st.fl/\I7 st.fl st/\DD st.ex:=by
 unfold Gp at h;simp only[ne,sA]at h;obtain⟨s,e⟩:=Td hf fr v h.1;have f:=ZH.1 h.2;rw[e]at f;have u:=b6 s;have tk:=s.trk;dsimp only at f;rw[f]at u tk;exact⟨u.b,tk,tk.sm⟩
variable{d:BX}
theorem aV{t:AC}(hf:Aq t){rules:List eg}(hr:Ej rules)(h:Ox t rules d):∀n:Nat,n<=d.ib.length->(EH t (Ed t rules d.gp (d.ib.take n)).2).2=0
 |0,_=>(Vy hf h.given).2.1|n+1,u=>by
  have he:=h.gx n U U;have e:=BJ (l:=d.ib) (i:=(n:Int)) U U;rw[show((n:Int)+1).toNat=n+1 by omega,G_]at e;unfold Qk at he;rw[G_]at he;obtain⟨_,s,f⟩:=Rk hf hr he;rw[e,Ob,f];exact congrArg Prod.snd (WM s)
theorem Ts:∀(l:List AR)(m:d4),(MC m l).dl.length=m.dl.length/\(MC m l).d3.length=m.d3.length
 |[],m=>⟨rfl,rfl⟩|s::l,m=>by
  have:=Ts l (C4 m s.kp);simp only[C4,CU,c9]at this;exact this
structure cW(t:AC)(d:BX)(x:AF×d4×Int):Prop where
 small:DD x.1
 ok:Im t x.1
 t1:x.2.1.dl.length=d.gp.dr.dl.length
 wl:x.2.1.d3.length=d.gp.dr.d3.length
 inn:IN x.2.1 x.1.dr
theorem nc{t:AC}(hf:Aq t){rules:List eg}(hr:Ej rules)(e:(JC t rules d).2.2=0):cW t d (JC t rules d):=by
 have h:Ox t rules d:=Yx.1 (by rw[<-ub];exact e);obtain⟨u,v⟩:=Qu hf hr h d.ib.length (ae _);have c3:=aV hf hr h d.ib.length (ae _);rw[y?]at u v c3;have w:JC t rules d=((Ed t rules d.gp d.ib).2,MC (Pv d.gp.dr) (Ed t rules d.gp d.ib).1,0):=by
  unfold JC;rw[ac (by rw[Yx.2 h];simp)]
 rw [w];have f:=Ts (Ed t rules d.gp d.ib).1 (Pv d.gp.dr);exact⟨u,(Oh hf c3).2,by rw[f.1];exact Au _,by rw[f.2];exact Au _,v⟩
variable{l by':Fp}
theorem J3(v:l.length<=1000)(h:∀x∈l,-1<=x/\x<by'.length):Cp l by'=Y (CU l by'):=by
 unfold Cp;rw[R6 (F:=λx=>if x<0 then -1 else AA by' x) λi s f i1 w=>?_]
 .rfl
 .have u:=h _ (AI f i1);rw[AD f i1,bs];by_cases e:0<=AA l i
  .rw[a6 d_,AD e u.2,bs,AV b_,bs,ac U]
  .rw[ac d_,AV b_,bs,a6 U,show AA l i=-1 by omega]
theorem UK(v:l.length<=1000)(h:∀x∈l,-1<=x/\x<by'.length):GG l by'=Y (CU l by'):=by
 unfold GG;rw[R6 (F:=λx=>if x<0 then -1 else AA by' x) λi s f i1 w=>?_]
 .rfl
 .have u:=h _ (AI f i1);rw[AD f i1,bs];by_cases e:AA l i<0
  .rw[a6 d_,AV b_,bs,a6 e]
  .rw[ac d_,bs,AD U u.2,bs,AV b_,bs,ac e]
variable{x:AF}
theorem oK(h:DD x):Nq x=Y x:=by
 have:=h.ea;have:=h.eh;have:=h.vals;unfold Nq slices_Clone_int DB;rw[BT a?,bs,BT a?,bs];rw[Bo (λi=>AF.mk x.dr (x.eb.take i.toNat)) U q?]
 .rw[G_,y?];rfl
 .intro i e i1;have f:=h.rows _ (AI e i1);rw[AD e i1,bs,BT a?,bs,AV (by rw[bk];simp;unfold AY;omega),bs,BJ e i1]
theorem E7(l e:Fp):(CU l e).length=l.length:=by unfold CU;rw[c9]
def DF(s:AR)(p:BC):d4:=⟨CU p.dl s.kp.dl,CU p.d3 s.kp.d3⟩
variable{s:AR}
theorem YJ{p:BC}(e:WL s.fl p)(f:I7 s.fl s):IN (DF s p) s.ex.dr:=by
 refine ⟨by show(CU _ _).length<=1000;rw[E7];exact e.t1,by show(CU _ _).length<=1000;rw[E7];exact e.wl,?_,?_⟩
 .exact MZ (λx u=>by have:=e.node x u;rw[f.t1];omega) f.node
 .exact MZ (λx u=>by have:=e.edge x u;rw[f.wl];omega) f.edge
theorem UH{p:BC}(e:WL s.fl p)(u:I7 s.fl s)(v:DD s.ex):HK s p=Y ⟨⟨s.ex,[]⟩,s.ex,DF s p⟩:=by
 unfold HK;rw[oK v,bs,J3 e.t1 (λx f=>by have:=e.node x f;rw[u.t1];omega),bs,J3 e.wl (λx f=>by have:=e.edge x f;rw[u.wl];omega),bs];rfl
theorem gZ{p:BC}(e:WL s.fl p)(u:I7 s.fl s):L3 s p=Y ⟨[],s.ex,DF s p⟩:=by
 unfold L3;rw[UK e.t1 (λx f=>by have:=e.node x f;rw[u.t1];omega),bs,UK e.wl (λx f=>by have:=e.edge x f;rw[u.wl];omega),bs];rfl
theorem kL(m:d4):NW m=Y (hasB m.dl (-1)||hasB m.d3 (-1)):=by
 have e:∀l:Fp,FZ l (-1)=Y (hasB l (-1)):=λl=>by
  unfold FZ;exact LD l (-1)
 unfold NW;rw[e,bs];cases hasB m.dl (-1)with
 |true=>rfl|false=>rw[ac a!,e,bs,bs];rfl
theorem gD{t:AC}(hf:Aq t){rules:List eg}(hr:Ej rules){a b:AR}(fa:Hq a.eg)(ka:De a.eg.d5<=40)(fb:Hq b.eg)(kb:De b.eg.d5<=40):
  Jf t rules a b=Y (if Dj t rules≠0 then Dj t rules else if(Gp t a&&Gp t b)=T then 1 else if a.fl=b.fl then 0 else 8):=by
 have v:(SI t rules ⟨⟨⟨[],[]⟩,[]⟩,[]⟩).2.2=Dj t rules:=by
  by_cases h:Dj t rules=0
  .have hv:(A5 t).2=0:=by
    unfold Dj at h;split at h
    next k=>exact absurd h k
    next k=>exact F_.1 k
   have hh:(EH t ⟨⟨[],[]⟩,[]⟩).2=0:=by
    unfold EH;rw[ac l?,ac (by simp[CA]),ac V,BU.2 (λi u i1=>k!)];dsimp only;rw[BU.2 (λi u i1=>k!)];rfl
   have f:Gt t rules ⟨⟨[],[]⟩,[]⟩=0:=by
    unfold Gt;rw[ac k?];exact hh
   rw [o7 (d:=⟨⟨⟨[],[]⟩,[]⟩,[]⟩) ⟨f,V,λi u i1=>k!⟩];exact h.symm
  .have f:Gt t rules ⟨⟨[],[]⟩,[]⟩=Dj t rules:=by
    unfold Gt;rw[a6 h]
   unfold SI;rw[a6 (by rw[f];exact h)];exact f
 unfold Jf C1;rw[gA hf hr,bs,v];by_cases h:Dj t rules=0
 case neg=>rw[a6 c?,a6 h]
 rw [ac k?,ac k?,fe hf fa ka,bs];cases Gp t a with
 |false=>rfl|true=>
  rw [ac a!,fe hf fb kb,bs,bs];cases Gp t b with
  |false=>rfl|true=>
   rw [ac a!,Rm,bs];by_cases e:a.fl=b.fl
   .rw[ac b?,ac a!,a6 e]
   .rw[a6 b?,ac a!,ac e]
theorem VD{t:AC}(h:Im t x):Dw x.dr/\x.eb.length=x.dr.dl.length/\∀e∈x.dr.d3,(0<=e.hV/\e.hV<x.dr.dl.length)/\0<=e.To/\e.To<x.dr.dl.length:=⟨h.g,h.len,λe he=>(h.g.fit e he).2⟩
end Go.Sf.Sc
namespace Go.Sf.Sc
open Go Go.Sf
noncomputable def TT(a b:AR)(p:BC)(m n iso:d4):Bool:=
 if hasB ([(C4 (DF a p) m).dl,(C4 (DF a p) m).d3,(C4 (DF b p) n).dl,(C4 (DF b p) n).d3].flatten) (-1)=X then T
 else decide (CU (C4 (DF a p) m).dl iso.dl=(C4 (DF b p) n).dl)&&decide (CU (C4 (DF a p) m).d3 iso.d3=(C4 (DF b p) n).d3)
theorem uj(a b:Fp)(v:Int):hasB (a++b) v=(hasB a v||hasB b v):=by simp[hasB]
variable{s:AR}{d:BX}
theorem iM{p:BC}{t:AC}{x:AF×d4×Int}(hi:IN (DF s p) s.ex.dr)(u:d.gp=s.ex)(f:cW t d x):IN (C4 (DF s p) x.2.1) x.1.dr:=by
 refine ⟨by show(CU _ _).length<=1000;rw[E7];exact hi.t1,by show(CU _ _).length<=1000;rw[E7];exact hi.wl,?_,?_⟩
 .exact MZ (λy e=>by have:=hi.node y e;rw[f.t1,u];exact this) f.inn.node
 .exact MZ (λy e=>by have:=hi.edge y e;rw[f.wl,u];exact this) f.inn.edge
structure zQ(t:AC)(a b:AR)(p:BC)(x y:AF×d4×Int)(iso:d4):Prop where
 ha:I7 a.fl a
 hb:I7 b.fl b
 pa:WL a.fl p
 pb:WL b.fl p
 fx:∃d,d.gp=a.ex/\cW t d x
 fy:∃d,d.gp=b.ex/\cW t d y
 io:Tb x.1 y.1 iso
 i1:iso.dl.length<=1000
 i2:iso.d3.length<=1000
 sa:DD a.ex
 sb:DD b.ex
theorem vQ{t:AC}{a b:AR}{p:BC}{x y:AF×d4×Int}{f:d4}(z:zQ t a b p x y f):
  ((HK a p).bind λB=>
 (HK b p).bind λC=>
 (Cp B.fd.dl x.2.1.dl).bind λD=>
 (Cp B.fd.d3 x.2.1.d3).bind λv=>
 (Cp C.fd.dl y.2.1.dl).bind λw=>
 (Cp C.fd.d3 y.2.1.d3).bind λA=>
 (E6 [D,v,w,A]).bind λE=>
 (slices_Contains_int E (-1)).bind λF=>
 if F=X then
 Y (X,T)
 else
 (Cp D f.dl).bind λG=>
 (slices_Equal_int G w).bind λH=>
 (if H=X then((Cp v f.d3).bind λI=>
 (slices_Equal_int I A).bind λJ=>
 Y (J))else Y T).bind λK=>
 Y (X,K))=Y (X,TT a b p x.2.1 y.2.1 f):=by
 obtain ⟨ha,hb,pa,pb,⟨ζ,O,fx⟩,⟨δ,hr,fy⟩,io,i1,i2,sa,sb⟩:=z;have M:=YJ pa ha;have N:=YJ pb hb;have ta:=iM M O fx;have tb:=iM N hr fy;have xn:∀z∈(DF a p).dl,-1<=z/\z<x.2.1.dl.length:=λz u=>by have:=M.node z u;rw[fx.t1,O];exact this
 have xe:∀z∈(DF a p).d3,-1<=z/\z<x.2.1.d3.length:=λz u=>by have:=M.edge z u;rw[fx.wl,O];exact this
 have yn:∀z∈(DF b p).dl,-1<=z/\z<y.2.1.dl.length:=λz u=>by have:=N.node z u;rw[fy.t1,hr];exact this
 have ye:∀z∈(DF b p).d3,-1<=z/\z<y.2.1.d3.length:=λz u=>by have:=N.edge z u;rw[fy.wl,hr];exact this
 have l1:=ta.t1;have l2:=ta.wl;have κ:=tb.t1;have η:=tb.wl;have P:∀z∈(C4 (DF a p) x.2.1).dl,-1<=z/\z<f.dl.length:=λz u=>by have:=ta.node z u;rw[io.nl];exact this
 have Q:∀z∈(C4 (DF a p) x.2.1).d3,-1<=z/\z<f.d3.length:=λz u=>by have:=ta.edge z u;rw[io.el];exact this
 have a1:CU (DF a p).dl x.2.1.dl=(C4 (DF a p) x.2.1).dl:=rfl;have S:CU (DF a p).d3 x.2.1.d3=(C4 (DF a p) x.2.1).d3:=rfl;have θ:CU (DF b p).dl y.2.1.dl=(C4 (DF b p) y.2.1).dl:=rfl;have ε:CU (DF b p).d3 y.2.1.d3=(C4 (DF b p) y.2.1).d3:=rfl;unfold TT;rw[UH pa ha sa,bs,UH pb hb sb,bs];dsimp only;rw[J3 M.t1 xn,bs,J3 M.wl xe,bs,J3 N.t1 yn,bs,J3 N.wl ye,bs,a1,S,θ,ε,bI a_,bs,P0,bs];by_cases g:hasB ([(C4 (DF a p) x.2.1).dl,(C4 (DF a p) x.2.1).d3,(C4 (DF b p) y.2.1).dl,(C4 (DF b p) y.2.1).d3].flatten) (-1)=X
 .rw[a6 g,a6 g]
 .rw[ac g,ac g,J3 l1 P,bs,KQ,bs];by_cases e:CU (C4 (DF a p) x.2.1).dl f.dl=(C4 (DF b p) y.2.1).dl
  .rw[a6 d_,J3 l2 Q,bs,KQ,bs,bs];simp[e]
  .rw[ac d_,bs];simp[e]
end Go.Sf.Sc
namespace Go.Sf.Sc
open Go Go.Sf
variable{c:Bool}
theorem J1{b:Bool}{o:K1}(h:b=T->o=Y c):(if b=X then Y X else o.bind λx=>Y (!x))=Y (b||!c):=by
 cases b with
 |true=>rfl|false=>rw[ac a!,h rfl];rfl
structure ACf(t:AC)(rules:List eg)(a b:AR)(j:pr):Prop where
 gr:Dj t rules=0
 ga:Gp t a=X
 gb:Gp t b=X
 before:a.fl=b.fl
 left:j.fu.gp=a.ex
 right:j.ec.gp=b.ex
theorem UX:∀{l:Fq}(n:Nat),TV.Sms l->TV.Sms (l.take n)
 |[],n,_=>u?
 |x::l,0,_=>trivial|x::l,n+1,h=>⟨h.1,UX n h.2⟩
theorem iF:∀{l:Fq}(n:Nat),TV.Sms l->TV.Sms (l.drop n)
 |[],n,_=>u?
 |x::l,0,h=>h|x::l,n+1,h=>iF n h.2
theorem Xd:∀{l:Fq}(n:Nat),TV.p0 l->TV.p0 (l.take n)
 |[],n,_=>u?
 |x::l,0,_=>trivial|x::l,n+1,h=>⟨h.1,Xd n h.2⟩
theorem Xb:∀{l:Fq}(n:Nat),TV.p0 l->TV.p0 (l.drop n)
 |[],n,_=>u?
 |x::l,0,h=>h|x::l,n+1,h=>Xb n h.2
variable{s:AR}
theorem jH(e:(Bg s).Sm)(f:(Bg s).WF):(Bt s.eg).Sm/\∀v∈s.ex.eb,∀x∈v,SN x:=by
 have w:TV.Sms [_,_,_,_,_,_,_,_,_,_,_,_,_,_,_,_,_,_,_,_,_,_,_,_,_,_,_,_,_,_,_,_,_,_,_,_,_,_]:=e;have w':TV.p0 [_,_,_,_,_,_,_,_,_,_,_,_,_,_,_,_,_,_,_,_,_,_,_,_,_,_,_,_,_,_,_,_,_,_,_,_,_,_]:=f;refine⟨UX 25 w,λv hv x u=>?_⟩;have z:=(Xb 33 w').1;have A:(TV.list 1 (s.ex.eb.map (eL 1 eI))).WF:=z;have B:(TV.list 1 (v.map eI)).WF:=Xc A.2 v hv;exact Xc B.2 x u
end Go.Sf.Sc
namespace Go.Sf.Sc
open Go Go.Sf
def J0(x y:AF)(ns mn:Fp)(i j:Int):Bool:=
 (decide (AA ns i<0)||decide (AA ns i=j))&&decide (AA y.dr.dl j=AA x.dr.dl i)&&!hasB mn j&&decide (AA x.eb i=AA y.eb j)
def MD(x y:AF)(es mn me:Fp)(i j:Int):Bool:=
 (decide (AA es i<0)||decide (AA es i=j))&&decide (AA y.dr.d3 j=⟨(AA x.dr.d3 i).ia,AA mn (AA x.dr.d3 i).hV,AA mn (AA x.dr.d3 i).To⟩)&&!hasB me j
def EE(x y:AF)(es mn:Fp):Nat->Fp->Option Fp
 |0,me=>Y me|k+1,me=>fst (λj=>if MD x y es mn me me.length j=X then EE x y es mn k (me++[j])else W) 0 y.dr.d3.length
def GQ(x y:AF)(ns es:Fp):Nat->Fp->Option d4
 |0,mn=>(EE x y es mn x.dr.d3.length []).map (d4.mk mn)|k+1,mn=>fst (λj=>if J0 x y ns mn mn.length j=X then GQ x y ns es k (mn++[j])else W) 0 y.dr.dl.length
def Zq(x y:AF)(es mn r:Fp)(n:Int):Prop:=∀i:Int,0<=i->i<n->(0<=AA r i/\AA r i<y.dr.d3.length)/\MD x y es mn (r.take i.toNat) i (AA r i)=X
def Zr(x y:AF)(ns r:Fp)(n:Int):Prop:=∀i:Int,0<=i->i<n->(0<=AA r i/\AA r i<y.dr.dl.length)/\J0 x y ns (r.take i.toNat) i (AA r i)=X
theorem qE(l:Fp)(j:Int):AA (l++[j]) l.length=j:=by simp[AA]
variable{l:Fp}{j i:Int}
theorem XX{P:Fp->Int->Int->Prop}(h:∀i:Int,0<=i->i<l.length->P (l.take i.toNat) i (AA l i))(u:P l l.length j)(f:0<=i)(i1:i<(l++[j]).length):P ((l++[j]).take i.toNat) i (AA (l++[j]) i):=by
 simp at i1;by_cases e:i<l.length
 .rw[Xq l j f e,A? U];exact h i f e
 .obtain rfl:i=l.length:=U
  rw [qE,A? U];rw[show((l.length:Int)).toNat=l.length by omega,y?];exact u
variable{x y:AF}
theorem WU{es mn:Fp}:∀(k:Nat)(me r:Fp),me.length+k=x.dr.d3.length->Zq x y es mn me me.length->EE x y es mn k me=Y r->r.length=x.dr.d3.length/\Zq x y es mn r x.dr.d3.length
 |0,me,r,A,ho,h=>by
  cases h;have e:me.length=x.dr.d3.length:=U
  exact ⟨e,e▸ho⟩
 |k+1,me,r,A,ho,h=>by
  obtain ⟨j,v,w,e,_⟩:=CQ h;split at e
  next f=>exact WU k (me++[j]) r a_ (λi u i1=>XX (P:=λp i z=>(0<=z/\z<y.dr.d3.length)/\MD x y es mn p i z=X) ho ⟨⟨v,w⟩,f⟩ u i1) e
  .cases e
theorem aI{es mn r:Fp}(v:r.length=x.dr.d3.length)(ho:Zq x y es mn r x.dr.d3.length):∀(k i:Nat),i+k=x.dr.d3.length->EE x y es mn k (r.take i)≠W
 |0,_,_=>by simp[EE]|k+1,i,w=>λh=>by
  rw [EE,BU]at h;obtain⟨⟨a,b⟩,f⟩:=ho i U U;have e:=h _ a b;have u:((r.take i).length:Int)=i:=e!
  have tk:=BJ (l:=r) (i:=(i:Int)) U U;rw[u]at e;rw[G_]at f tk;rw[a6 f,<-tk]at e;exact aI v ho k (i+1) U e
theorem S4{ns es:Fp}:∀(k:Nat)(mn:Fp)(m:d4),mn.length+k=x.dr.dl.length->Zr x y ns mn mn.length->GQ x y ns es k mn=Y m ->
  m.dl.length=x.dr.dl.length/\Zr x y ns m.dl x.dr.dl.length/\m.d3.length=x.dr.d3.length/\Zq x y es m.dl m.d3 x.dr.d3.length/\m.dl.take mn.length=mn
 |0,mn,m,B,ho,h=>by
  have e:mn.length=x.dr.dl.length:=U
  rw [GQ]at h;cases u:EE x y es mn x.dr.d3.length []with
  |none=>rw[u]at h;cases h
  |some r=>
   rw [u]at h;cases h;obtain⟨a,b⟩:=WU _ _ _ V (λi v i1=>k!) u;exact⟨e,e▸ho,a,b,y?⟩
 |k+1,mn,m,B,ho,h=>by
  obtain ⟨j,w,A,e,_⟩:=CQ h;split at e
  next f=>obtain⟨a,b,c,d,g⟩:=S4 k (mn++[j]) m a_ (λi v i1=>XX (P:=λp i z=>(0<=z/\z<y.dr.dl.length)/\J0 x y ns p i z=X) ho ⟨⟨w,A⟩,f⟩ v i1) e;refine⟨a,b,c,d,?_⟩;have:=congrArg (List.take mn.length) g;rw[z?]at this;simpa using this
  .cases e
variable{m:d4}
theorem bF{ns es:Fp}(nl:m.dl.length=x.dr.dl.length)(ho:Zr x y ns m.dl x.dr.dl.length)(el:m.d3.length=x.dr.d3.length)(he:Zq x y es m.dl m.d3 x.dr.d3.length):∀(k i:Nat),i+k=x.dr.dl.length->GQ x y ns es k (m.dl.take i)≠W
 |0,i,v=>by
  have:=aI el he x.dr.d3.length 0 U;rw[z! U,GQ];rw[A!]at this;cases h:EE x y es m.dl x.dr.d3.length []with
  |none=>exact absurd h this|some r=>simp
 |k+1,i,v=>λh=>by
  rw [GQ,BU]at h;obtain⟨⟨a,b⟩,f⟩:=ho i U U;have e:=h _ a b;have u:((m.dl.take i).length:Int)=i:=e!
  have tk:=BJ (l:=m.dl) (i:=(i:Int)) U U;rw[u]at e;rw[G_]at f tk;rw[a6 f,<-tk]at e;exact bF nl ho el he k (i+1) U e
structure Sw(x y:AF)(m:d4):Prop where
 nl:m.dl.length=x.dr.dl.length
 el:m.d3.length=x.dr.d3.length
 nn:x.dr.dl.length=y.dr.dl.length
 ee:x.dr.d3.length=y.dr.d3.length
 nin:∀i:Int,0<=i->i<x.dr.dl.length->0<=AA m.dl i/\AA m.dl i<y.dr.dl.length
 ein:∀i:Int,0<=i->i<x.dr.d3.length->0<=AA m.d3 i/\AA m.d3 i<y.dr.d3.length
 nd:m.dl.Nodup
 ed:m.d3.Nodup
 node:∀i:Int,0<=i->i<x.dr.dl.length->AA y.dr.dl (AA m.dl i)=AA x.dr.dl i/\AA x.eb i=AA y.eb (AA m.dl i)
 edge:∀i:Int,0<=i->i<x.dr.d3.length->AA y.dr.d3 (AA m.d3 i)=⟨(AA x.dr.d3 i).ia,AA m.dl (AA x.dr.d3 i).hV,AA m.dl (AA x.dr.d3 i).To⟩
def Xk(ns l:Fp):Prop:=∀i:Int,0<=i->i<l.length->0<=AA ns i->AA l i=AA ns i
theorem W8{ns es:Fp}(nn:x.dr.dl.length=y.dr.dl.length)(ee:x.dr.d3.length=y.dr.d3.length):
  (m.dl.length=x.dr.dl.length/\Zr x y ns m.dl x.dr.dl.length/\m.d3.length=x.dr.d3.length/\Zq x y es m.dl m.d3 x.dr.d3.length)↔Sw x y m/\Xk ns m.dl/\Xk es m.d3:=by
 constructor
 .rintro⟨a,b,c,d⟩;refine⟨⟨a,c,nn,ee,λi e i1=>(b i e i1).1,λi e i1=>(d i e i1).1,KJ.2 λi e i1=>?_,KJ.2 λi e i1=>?_,λi e i1=>?_,λi e i1=>?_⟩,λi e i1 g=>?_,λi e i1 g=>?_⟩
  .have:=(b i e U).2;simp only[J0,ne,D_]at this;exact this.1.2
  .have:=(d i e U).2;simp only[MD,ne,D_]at this;exact this.2
  .have:=(b i e i1).2;simp only[J0,ne,sA]at this;exact⟨this.1.1.2,this.2⟩
  .have:=(d i e i1).2;simp only[MD,ne,sA]at this;exact this.1.2
  .have:=(b i e U).2;simp only[J0,ne,E_,sA]at this;omega
  .have:=(d i e U).2;simp only[MD,ne,E_,sA]at this;omega
 .rintro⟨h,f,u⟩;have l1:=h.nl;have l2:=h.el;refine⟨l1,λi e i1=>⟨h.nin i e i1,?_⟩,l2,λi e i1=>⟨h.ein i e i1,?_⟩⟩
  .have k:=f i e U;simp only[J0,ne,E_,sA,D_];exact⟨⟨⟨U,(h.node i e i1).1⟩,KJ.1 h.nd i e U⟩,(h.node i e i1).2⟩
  .have k:=u i e U;simp only[MD,ne,E_,sA,D_];exact⟨⟨U,h.edge i e i1⟩,KJ.1 h.ed i e U⟩
def PT(x y:AF)(ns es:Fp):Nat->Fp->Option d4
 |0,mn=>(EE x y es mn x.dr.d3.length []).map (d4.mk mn)|k+1,mn=>fst (λj=>if(J0 x y ns mn mn.length j&&R5 x y (mn++[j]) mn.length)=X then PT x y ns es k (mn++[j])else W) 0 y.dr.dl.length
def PD(x:AF):Prop:=∀e∈x.dr.d3,(0<=e.hV/\e.hV<x.dr.dl.length)/\0<=e.To/\e.To<x.dr.dl.length
theorem ax(h:Sw x y m)(ends:PD x)(e:0<=i)(i1:i<x.dr.dl.length):R5 x y m.dl i=X:=by
 have l1:=h.nl;have l2:=h.el;have u:=h.ee;have ein:∀k∈m.d3,0<=k/\k<y.dr.d3.length:=λk v=>by
  obtain ⟨i,e,i1,rfl⟩:=BW v;exact h.ein i e U
 unfold R5;rw[D_,Bw];intro j f w;unfold jt;rw[<-aF l1 h.nd l2 u h.ed ein ends h.edge f U e i1,<-aF l1 h.nd l2 u h.ed ein ends h.edge e i1 f U];simp
variable{n:Nat}
theorem uv(e:0<=i)(h:i<n):R5 x y (l.take n) i=R5 x y l i:=by
 unfold R5;congr 1;refine Tc λj f u=>?_;unfold jt;rw[Go.Sf.t5 U,Go.Sf.t5 U]
theorem Wb{ns es:Fp}(nn:x.dr.dl.length=y.dr.dl.length)(ee:x.dr.d3.length=y.dr.d3.length)(ends:PD x):∀(k:Nat)(mn:Fp),mn.length+k=x.dr.dl.length->Zr x y ns mn mn.length->PT x y ns es k mn=GQ x y ns es k mn
 |0,_,_,_=>rfl|k+1,mn,C,ho=>by
  rw [PT,GQ];refine ah λj w A _=>?_;by_cases f:J0 x y ns mn mn.length j=X
  case neg=>rw[ac (by simp[f]),ac f]
  have u:Zr x y ns (mn++[j]) (mn++[j]).length:=λi B i1=>XX (P:=λp i z=>(0<=z/\z<y.dr.dl.length)/\J0 x y ns p i z=X) ho ⟨⟨w,A⟩,f⟩ B i1;rw[a6 f,f,E'];by_cases g:R5 x y (mn++[j]) mn.length=X
  .rw[a6 g,Wb nn ee ends k _ a_ u]
  rw [ac g];cases h:GQ x y ns es k (mn++[j])with
  |none=>rfl|some m=>
   obtain ⟨a,b,c,d,e⟩:=S4 k _ m a_ u h;have v:=((W8 nn ee).1 ⟨a,b,c,d⟩).1;refine absurd ?_ g;rw[<-e,uv U a_];exact ax v ends U U
end Go.Sf.Sc
namespace Go.Sf.Sc
open Go Go.Sf
def S2:List (Int×Int)->Fp->Option Fp
 |[],o=>Y o|p::r,o=>if decide (p.1<0)≠decide (p.2<0)then W else if p.1<0 then S2 r o else if 0<=AA o p.1/\AA o p.1≠p.2 then W else S2 r (BG o p.1 p.2)
def dM(f:Int->Int)(ps:List (Int×Int)):Prop:=∀p∈ps,0<=p.1->f p.1=p.2
def Xp(f:Int->Int)(o:Fp):Prop:=∀k:Int,0<=k->k<o.length->0<=AA o k->f k=AA o k
theorem nL{f:Int->Int}{o:Fp}{p:Int×Int}(h0:0<=p.1)(v:p.1<o.length)(z:0<=p.2)(h:¬(0<=AA o p.1/\AA o p.1≠p.2)):Xp f (BG o p.1 p.2)↔f p.1=p.2/\Xp f o:=by
 unfold Xp;rw[KH];constructor
 .intro k;have w:=k p.1 h0 v (by rw[Vr _ h0 v];exact z);rw[Vr _ h0 v]at w;refine⟨w,λi u i1 g=>?_⟩;by_cases e:i=p.1
  .subst e;omega
  .have:=k i u i1 (by rw[Vs _ h0 u e];exact g)
   rwa [Vs _ h0 u e]at this
 .rintro⟨a,b⟩ i u i1 g;by_cases e:i=p.1
  .subst e;rw[Vr _ h0 v];exact a
  .rw[Vs _ h0 u e]at g|-;exact b i u i1 g
theorem OU:∀{u:List (Int×Int)}{o r:Fp},(∀p∈u,p.1<o.length)->S2 u o=Y r->r.length=o.length/\(∀p∈u,(p.1<0↔p.2<0))/\∀f:Int->Int,(dM f u/\Xp f o↔Xp f r)
 |[],o,r,_,h=>by
  cases h;exact⟨rfl,λp v=>by simp at v,λf=>⟨λk=>k.2,λk=>⟨λp v=>by simp at v,k⟩⟩⟩
 |p::u,o,r,hi,h=>by
  rw [S2]at h;split at h
  .cases h
  rename_i B;have z:p.1<0↔p.2<0:=t?
  have w:∀q∈u,q.1<o.length:=λq e=>hi q (v6 _ e);have A:∀f,dM f (p::u)↔(0<=p.1->f p.1=p.2)/\dM f u:=λf=>by simp[dM]
  split at h
  .rename_i C;obtain⟨a,b,c⟩:=OU w h;refine⟨a,λq e=>?_,λf=>?_⟩
   .rcases v5.1 e with rfl|e
    .exact z
    .exact b q e
   .rw[<-c f,A];exact⟨λk=>⟨k.1.2,k.2⟩,λk=>⟨⟨λg=>U,k.1⟩,k.2⟩⟩
  .rename_i C;split at h
   .cases h
   rename_i D;have v:=hi p (.head _);obtain⟨a,b,c⟩:=OU (by rw[KH];exact w) h;refine⟨by rw[a,KH],λq e=>?_,λf=>?_⟩
   .rcases v5.1 e with rfl|e
    .exact z
    .exact b q e
   .rw[<-c f,A,nL U v U D];exact⟨λk=>⟨k.1.2,k.1.1 U,k.2⟩,λk=>⟨⟨λ_=>k.2.1,k.1⟩,k.2.2⟩⟩
theorem W4:∀{e:List (Int×Int)}{o:Fp}{f:Int->Int},(∀p∈e,p.1<o.length)->(∀p∈e,(p.1<0↔p.2<0))->dM f e->Xp f o->S2 e o≠W
 |[],_,_,_,_,_,_=>by simp[S2]|p::e,o,f,hi,F,ha,A=>by
  have B:=hi p (.head _);have s:=F p (.head _);have v:∀q∈e,q.1<o.length:=λq u=>hi q (v6 _ u);have w:∀q∈e,(q.1<0↔q.2<0):=λq u=>F q (v6 _ u);have z:dM f e:=λq u=>ha q (v6 _ u);rw[S2,ac (by simp[s])];by_cases C:p.1<0
  .rw[a6 C];exact W4 v w z A
  .have D:f p.1=p.2:=ha p (.head _) U;have E:¬(0<=AA o p.1/\AA o p.1≠p.2):=λ⟨a,b⟩=>b (by rw[<-A p.1 U B a];exact D);rw[ac C,ac E];exact W4 (by rw[KH];exact v) w z ((nL U B U E).2 ⟨D,A⟩)
def OK(f t l:Fp):Prop:=∀i:Int,0<=i->i<f.length->(AA f i<0↔AA t i<0)/\(0<=AA f i->AA l (AA f i)=AA t i)
def PF(n:Nat)(f t:Fp):Option Fp:=S2 (f.zip t) (y! n (-1))
theorem Ov{f t:Fp}(v:f.length=t.length){p:Int×Int}:p∈f.zip t↔∃i:Int,0<=i/\i<f.length/\p=(AA f i,AA t i):=by
 have e:∀i:Int,0<=i->i<f.length->AA (f.zip t) i=(AA f i,AA t i):=λi u i1=>by
  obtain ⟨n,rfl⟩:=F? u;have w:n<f.length:=U
  have z:n<t.length:=U
  have A:n<(f.zip t).length:=a_
  unfold AA;rw[G_,x!,w? A,x!,w? w,x!,w? z,B_];rfl
 have B:(f.zip t).length=f.length:=by simp[v]
 constructor
 .intro h;obtain⟨i,u,i1,r⟩:=BW h;rw[B]at i1;exact⟨i,u,i1,by rw[<-r,e i u i1]⟩
 .rintro⟨i,u,i1,rfl⟩;rw[<-e i u i1];exact AI u U
theorem UR{f t l:Fp}(v:f.length=t.length):OK f t l↔(∀p∈f.zip t,(p.1<0↔p.2<0))/\dM (AA l) (f.zip t):=by
 constructor
 .intro h;refine⟨λp e=>?_,λp e g=>?_⟩<;>obtain⟨i,u,i1,rfl⟩:=(Ov v).1 e
  .exact(h i u i1).1
  .exact(h i u i1).2 g
 .intro h i u i1;have e:=(Ov v).2 ⟨i,u,i1,rfl⟩;exact⟨h.1 _ e,h.2 _ e⟩
variable{n:Nat}
theorem uQ{k v:Int}(e:0<=k)(f:k<n):AA (y! n v) k=v:=List.eq_of_mem_replicate (AI e d?)
theorem nK(f:Int->Int)(n:Nat):Xp f (y! n (-1)):=λk u e g=>by
 rw [B']at e;rw[uQ u e]at g;omega
theorem Tw{f t r l:Fp}(e:f.length=t.length)(hi:∀x∈f,x<n)(u:l.length=n)(h:PF n f t=Y r):Xk r l↔OK f t l:=by
 obtain ⟨a,b,c⟩:=OU (λp v=>by obtain⟨i,w,i1,rfl⟩:=(Ov e).1 v;have:=hi _ (AI w i1);simpa using this) h;rw[B']at a;rw[UR e];have:=c (AA l);have k:Xk r l↔Xp (AA l) r:=by unfold Xk Xp;rw[u,a]
 rw [k,<-this];exact⟨λk=>⟨b,k.1⟩,λk=>⟨k.2,nK _ _⟩⟩
theorem ng{f t l:Fp}(e:f.length=t.length)(hi:∀x∈f,x<n)(h:PF n f t=W):¬OK f t l:=λk=>
 W4 (λp u=>by obtain⟨i,v,i1,rfl⟩:=(Ov e).1 u;have:=hi _ (AI v i1);simpa using this) ((UR e).1 k).1 ((UR e).1 k).2 (nK _ _) h
def GP(x y:AF)(f t:d4):Option d4:=
 if x.dr.dl.length=y.dr.dl.length/\x.dr.d3.length=y.dr.d3.length then
  match PF x.dr.dl.length f.dl t.dl,PF x.dr.d3.length f.d3 t.d3 with
  |some ns,Y es=>GQ x y ns es x.dr.dl.length []|_,_=>W
 else W
structure Ud(x:AF)(f t:d4):Prop where
 nl:f.dl.length=t.dl.length
 el:f.d3.length=t.d3.length
 nin:∀k∈f.dl,k<x.dr.dl.length
 ein:∀k∈f.d3,k<x.dr.d3.length
variable{x y:AF}
theorem Tt{f t m:d4}(hi:Ud x f t)(h:GP x y f t=Y m):Sw x y m/\OK f.dl t.dl m.dl/\OK f.d3 t.d3 m.d3:=by
 unfold GP at h;split at h
 case isFalse=>cases h
 rename_i e;split at h
 case h_2=>cases h
 rename_i ns es u v;obtain⟨a,b,c,d,_⟩:=S4 _ _ _ V (λi B i1=>k!) h;obtain⟨w,z,A⟩:=(W8 e.1 e.2).1 ⟨a,b,c,d⟩;exact⟨w,(Tw hi.nl hi.nin a u).1 z,(Tw hi.el hi.ein c v).1 A⟩
theorem qV{f t m:d4}(hi:Ud x f t)(h:Sw x y m)(e:OK f.dl t.dl m.dl)(u:OK f.d3 t.d3 m.d3):GP x y f t≠W:=by
 unfold GP;rw[a6 ⟨h.nn,h.ee⟩];cases v:PF x.dr.dl.length f.dl t.dl with
 |none=>exact absurd e (ng hi.nl hi.nin v)|some ns=>
 cases w:PF x.dr.d3.length f.d3 t.d3 with
 |none=>exact absurd u (ng hi.el hi.ein w)|some es=>
 obtain ⟨a,b,c,d⟩:=(W8 h.nn h.ee).2 ⟨h,(Tw hi.nl hi.nin h.nl v).2 e,(Tw hi.el hi.ein h.el w).2 u⟩;exact bF a b c d x.dr.dl.length 0 U
def PJ(l:Fp):Fp:=(At l.length).map λj=>(fst (λi=>if AA l i=j then Y i else W) 0 l.length).getD 0
theorem Vz(l:Fp):(PJ l).length=l.length:=by unfold PJ;rw[c9,Au]
variable{l:Fp}{j:Int}
theorem R3(nd:l.Nodup)(u:∀i:Int,0<=i->i<l.length->0<=AA l i/\AA l i<l.length)(w:0<=j)(z:j<l.length):(0<=AA (PJ l) j/\AA (PJ l) j<l.length)/\AA l (AA (PJ l) j)=j:=by
 have B:j∈l:=nM nd rfl (λx A=>by obtain⟨i,f,i1,rfl⟩:=BW A;exact u i f i1) w z;unfold PJ;rw[Dy w (by rw[Au];exact z),QD _ w z];cases h:fst (λi=>if AA l i=j then Y i else W) 0 (l.length:Int)with
 |none=>
  obtain ⟨i,f,i1,e⟩:=BW B;have:=BU.1 h i f i1;simp[e]at this
 |some v=>
  obtain ⟨i,f,i1,e,_⟩:=CQ h;split at e
  .cases e;rename_i e;exact⟨⟨f,i1⟩,e⟩
  .cases e
variable{i:Int}
theorem xh(nd:l.Nodup)(u:0<=i)(i1:i<l.length)(w:0<=j)(v:j<l.length)(e:AA l i=AA l j):i=j:=by
 have f:∀{i j:Int},0<=i->i<j->j<l.length->AA l i=AA l j->False:=λ{i j}u z v e=>by
  have:=KJ.1 nd j U v;rw[<-D?,CF]at this;refine this ?_;rw[<-e,<-Sc.t5 u z];exact AI u e!
 rcases Int.lt_trichotomy i j with h|h|h
 .exact(f u h v e).elim
 .exact h
 .exact(f w h i1 e.symm).elim
theorem ZL(nd:l.Nodup)(e:∀i:Int,0<=i->i<l.length->0<=AA l i/\AA l i<l.length)(f:0<=i)(i1:i<l.length):AA (PJ l) (AA l i)=i:=by
 obtain ⟨a,b⟩:=e i f i1;obtain⟨c,d⟩:=R3 nd e a b;exact xh nd c.1 c.2 f i1 d
theorem nw(nd:l.Nodup)(f:∀i:Int,0<=i->i<l.length->0<=AA l i/\AA l i<l.length):(PJ l).Nodup:=by
 refine KJ.2 λi v i1=>?_;rw[<-D?,CF];intro w;rw[Vz]at i1;obtain⟨j,u,B,e⟩:=BW w;rw[bk,Vz]at B;rw[Sc.t5 u U]at e;have z:=(R3 nd f v i1).2;have A:=(R3 nd f u U).2;rw[e,z]at A;omega
def ACa(m:d4):d4:=⟨PJ m.dl,PJ m.d3⟩
variable{m:d4}
theorem ul(h:Sw x y m)(ends:PD x):Sw y x (ACa m):=by
 have l1:=h.nl;have l2:=h.el;have v:=h.nn;have w:=h.ee;have f:∀i:Int,0<=i->i<m.dl.length->0<=AA m.dl i/\AA m.dl i<m.dl.length:=λi e i1=>by have:=h.nin i e U;omega
 have u:∀i:Int,0<=i->i<m.d3.length->0<=AA m.d3 i/\AA m.d3 i<m.d3.length:=λi e i1=>by have:=h.ein i e U;omega
 refine ⟨by rw[<-v,<-l1];exact Vz _,by rw[<-w,<-l2];exact Vz _,v.symm,w.symm,λi e i1=>?_,λi e i1=>?_,nw h.nd f,nw h.ed u,λi e i1=>?_,λi e i1=>?_⟩
 .have:=(R3 h.nd f e U).1;rw[<-l1];exact this
 .have:=(R3 h.ed u e U).1;rw[<-l2];exact this
 .obtain⟨a,b⟩:=R3 h.nd f e U;obtain⟨c,d⟩:=h.node _ a.1 U;rw[b]at c d;exact⟨c.symm,d.symm⟩
 .obtain⟨a,b⟩:=R3 h.ed u e U;have c:=h.edge _ a.1 U;obtain⟨⟨z,B⟩,A,C⟩:=ends _ (AI (l:=x.dr.d3) a.1 U);show AA x.dr.d3 (AA (PJ m.d3) i)=⟨_,AA (PJ m.dl) _,AA (PJ m.dl) _⟩;rw[b]at c;rw[c];dsimp only;rw[ZL h.nd f z U,ZL h.nd f A U]
theorem g8{f t l:Fp}(v:f.length=t.length)(nd:l.Nodup)(e:∀i:Int,0<=i->i<l.length->0<=AA l i/\AA l i<l.length)(hf:∀x∈f,x<l.length)(h:OK f t l):OK t f (PJ l):=λi u i1=>by
 obtain ⟨a,b⟩:=h i u U;refine⟨a.symm,λg=>?_⟩;have:=hf _ (AI (l:=f) u U);rw[<-b U,ZL nd e U this]
theorem nf{f t:d4}(hi:Ud x f t)(w:Ud y t f)(A:PD x)(D:PD y):(GP x y f t).isSome=(GP y x t f).isSome:=by
 have v:∀{x y:AF}{f t:d4},Ud x f t->Ud y t f->PD x->(GP x y f t).isSome=X->(GP y x t f).isSome=X:=λ{x y f t}hi w A h=>by
  obtain ⟨m,e⟩:=Option.isSome_iff_exists.1 h;obtain⟨u,E,F⟩:=Tt hi e;have l1:=u.nl;have l2:=u.el;have G:=u.nn;have H:=u.ee;refine Option.isSome_iff_ne_none.2 (qV w (ul u A) (g8 hi.nl u.nd (λi B i1=>?_) (λz C=>?_) E) (g8 hi.el u.ed (λi B i1=>?_) (λz C=>?_) F))
  .have:=u.nin i B U;omega
  .have:=hi.nin z C;omega
  .have:=u.ein i B U;omega
  .have:=hi.ein z C;omega
 rw [Bool.eq_iff_iff];exact⟨v hi w A,v w hi D⟩
end Go.Sf.Sc
namespace Go.Sf
def FE{α σ:Type}(g:α->σ->Option σ):List α->σ->Option σ
 |[],s=>Y s|x::l,s=>(g x s).bind (FE g l)
variable{α σ:Type}{g:α->σ->Option σ}
theorem aX:∀{a b:List α}{s:σ},FE g (a++b) s=(FE g a s).bind (FE g b)
 |[],_,_=>rfl|x::a,b,s=>by
  rw [List.cons_append,FE,FE];cases g x s with
  |none=>rfl|some v=>exact aX (a:=a)
theorem U4{I:σ->Prop}:∀{l:List α}{s r:σ},(∀x∈l,∀s s',I s->g x s=Y s'->I s')->I s->FE g l s=Y r->I r
 |[],s,r,_,h,e=>by cases e;exact h
 |x::l,s,r,u,h,e=>by
  rw [FE]at e;cases f:g x s with
  |none=>rw[f]at e;cases e
  |some v=>
   rw [f]at e;exact U4 (λy w=>u y (v6 _ w)) (u x (.head _) s v h f) e
def Wv{σ ρ:Type}(e:ρ):Option σ->B5 σ ρ
 |some s=>.next s|none=>.ret e
def Z3{σ ρ:Type}(e:ρ):Option σ->σ ⊕ ρ
 |some s=>.inl s|none=>.inr e
variable{σ' ρ:Type}
theorem WW[Inhabited α]{f:Int->σ->Option (B5 σ ρ)}{l:List α}(enc:σ'->σ)(g:α->σ'->Option σ')(e:ρ)(I:Int->σ'->Prop)(h:∀(i:Int)s,0<=i->i<l.length->I i s->f i (enc s)=Y (Wv e ((g (AA l i) s).map enc))/\∀s',g (AA l i) s=Y s'->I (i+1) s'):
  ∀(n:Nat)(a:Int)(s:σ'),0<=a->a+n=l.length->I a s->tn f n a (enc s)=Y (Z3 e ((FE g (l.drop a.toNat) s).map enc))
 |0,a,s,a0,A,_=>by
  rw [List.drop_eq_nil_of_le U];rfl
 |n+1,a,s,a0,A,B=>by
  obtain ⟨w,z⟩:=h a s a0 U B;have hd:l.drop a.toNat=AA l a::l.drop (a+1).toNat:=by
   rw [List.drop_eq_getElem_cons U,show(a+1).toNat=a.toNat+1 by omega];congr 1;unfold AA;rw[x!,w? U];rfl
  rw [Ek,w,hd,FE];cases u:g (AA l a) s with
  |none=>rfl|some v=>exact WW enc g e I h n (a+1) v U U (z v u)
theorem PG[Inhabited α]{f:Int->σ->Option (B5 σ ρ)}{l:List α}(enc:σ'->σ)(g:α->σ'->Option σ')(e:ρ)(I:Int->σ'->Prop){s:σ'}{v:σ}(u:v=enc s){n:Int}(w:n=l.length)(h0:I 0 s)(h:∀(i:Int)s,0<=i->i<l.length->I i s->f i (enc s)=Y (Wv e ((g (AA l i) s).map enc))/\∀s',g (AA l i) s=Y s'->I (i+1) s'):gt f 0 n v=Y (Z3 e ((FE g l s).map enc)):=by
 subst u w;have:=WW enc g e I h l.length 0 s U U h0;unfold gt;simpa using this
theorem X7[Inhabited α]{f:Int->σ->Option (B5 σ ρ)}{l:List α}(g:α->σ->Option σ)(e:ρ)(I:σ->Prop){s:σ}(h0:I s)(h:∀(i:Int)s,0<=i->i<l.length->I s->f i s=Y (Wv e (g (AA l i) s))/\∀s',g (AA l i) s=Y s'->I s'):gt f 0 l.length s=Y (Z3 e (FE g l s)):=by
 have:=PG (n:=l.length) (λs=>s) g e (λ_=>I) rfl rfl h0 (λi s u i1 v=>by simpa using h i s u i1 v);simpa using this
end Go.Sf
namespace Go.Sf.Sc
open Go Go.Sf
theorem WN{l a b:Fp}(h:∀x∈l,x<a.length):CU (CU l a) b=CU l (CU a b):=by
 unfold CU;rw[List.map_map];refine B! λx f=>?_;dsimp only[Function.comp_apply];by_cases e:x<0
 .rw[a6 e,a6 e,a6 a!]
 .rw[ac e,ac e,Dy U (h x f)]
theorem m7{l a b:d4}(e:∀x∈l.dl,x<a.dl.length)(f:∀x∈l.d3,x<a.d3.length):C4 (C4 l a) b=C4 l (C4 a b):=by
 unfold C4;rw[WN e,WN f]
structure CE where
 gx:List C0
 kg:AF
 ll:d4
instance:Inhabited CE:=⟨⟨[],⟨⟨[],[]⟩,[]⟩,⟨[],[]⟩⟩⟩
noncomputable def N6(t:AC)(rules:List eg)(p:CE)(mv:C0):AR:=(EW t (AA rules mv.eg) p.kg mv.j0).1
noncomputable def PS(t:AC)(rules:List eg)(p:CE)(mv:C0):CE:=⟨p.gx++[mv],(N6 t rules p mv).ex,C4 p.ll (N6 t rules p mv).kp⟩
def PN(p q:CE):Bool:=(GP p.kg q.kg p.ll q.ll).isSome
noncomputable def OS(t:AC)(rules:List eg)(p:CE)(mv:C0)(l:List CE):Option (List CE):=
 if 8<(N6 t rules p mv).ex.dr.dl.length then W
 else if l.any (λq=>PN q (PS t rules p mv))=X then Y l
 else if l.length=300 then W else Y (l++[PS t rules p mv])
noncomputable def GT(t:AC)(rules:List eg)(h:AF)(i:Int):List C0:=(Ff t (AA rules i) h).1.map (C0.mk i)
noncomputable def Uv(t:AC)(rules:List eg)(h:AF):Bool:=(At rules.length).all λi=>decide ((Ff t (AA rules i) h).2=0)
noncomputable def PI(t:AC)(rules:List eg)(p:CE)(l:List CE):Option (List CE):=
 if Uv t rules p.kg=X then FE (OS t rules p) ((At rules.length).flatMap (GT t rules p.kg)) l else W
variable{p:CE}
theorem YI{t:AC}{rules:List eg}:∀{is:Fp}{l:List CE},
  FE (λi l=>if(Ff t (AA rules i) p.kg).2=0 then FE (OS t rules p) (GT t rules p.kg i) l else W) is l=if is.all (λi=>decide ((Ff t (AA rules i) p.kg).2=0))=X then FE (OS t rules p) (is.flatMap (GT t rules p.kg)) l else W
 |[],l=>rfl|i::is,l=>by
  rw [FE,B?,C_,aX];by_cases e:(Ff t (AA rules i) p.kg).2=0
  .rw[a6 e,decide_eq_true e,E'];cases h:FE (OS t rules p) (GT t rules p.kg i) l with
   |none=>
    rw [Option.bind_none,Option.bind_none];split<;>rfl
   |some v=>exact YI
  .rw[ac e,decide_eq_false e,E!];rfl
noncomputable def MA(t:AC)(rules:List eg)(depth:Int):Nat->Int->List CE->Option (List CE)
 |0,_,l=>Y l|k+1,i,l=>if i<l.length then(if((AA l i).gx.length:Int)=depth then MA t rules depth k (i+1) l else(PI t rules (AA l i) l).bind (MA t rules depth k (i+1)))else Y l
noncomputable def dE(t:AC)(rules:List eg)(depth:Int)(p:CE):Option (List CE):=MA t rules depth 301 0 [p]
structure I6(t:AC)(rules:List eg)(h0:AF)(m0:d4)(p:CE):Prop where
 rep:Ox t rules ⟨h0,p.gx⟩
 kg:p.kg=(Ed t rules h0 p.gx).2
 ll:p.ll=C4 m0 (MC (Pv h0.dr) (Ed t rules h0 p.gx).1)
 few:p.gx.length<=5
theorem qU(m:d4)(l:List AR)(s:AR):MC m (l++[s])=C4 (MC m l) s.kp:=by
 unfold MC;rw[List.foldl_append];rfl
theorem YE{t:AC}(hf:Aq t){rules:List eg}(hr:Ej rules){h0:AF}{m0:d4}(f:IN m0 h0.dr)(g:I6 t rules h0 m0 p):
  DD p.kg/\IN (MC (Pv h0.dr) (Ed t rules h0 p.gx).1) p.kg.dr/\IN p.ll p.kg.dr/\(EH t p.kg).2=0/\p.ll.dl.length=m0.dl.length/\p.ll.d3.length=m0.d3.length:=by
 obtain ⟨v,e⟩:=Qu hf hr g.rep p.gx.length (ae _);have c3:=aV hf hr g.rep p.gx.length (ae _);rw[y?]at v e c3;have w:=Ts (Ed t rules h0 p.gx).1 (Pv h0.dr);have l1:(MC (Pv h0.dr) (Ed t rules h0 p.gx).1).dl.length=h0.dr.dl.length:=by rw[w.1];exact Au _
 have l2:(MC (Pv h0.dr) (Ed t rules h0 p.gx).1).d3.length=h0.dr.d3.length:=by rw[w.2];exact Au _
 rw [<-g.kg]at v e c3;refine⟨v,e,?_,c3,by rw[g.ll];exact E7 _ _,by rw[g.ll];exact E7 _ _⟩;rw[g.ll];refine⟨by show(CU _ _).length<=1000;rw[E7];exact f.t1,by show(CU _ _).length<=1000;rw[E7];exact f.wl,?_,?_⟩
 .exact MZ (λy u=>by rw[l1];exact f.node y u) e.node
 .exact MZ (λy u=>by rw[l2];exact f.edge y u) e.edge
variable{mv:C0}
theorem VB{t:AC}(hf:Aq t){rules:List eg}(hr:Ej rules){h0:AF}{m0:d4}(v:IN m0 h0.dr)(g:I6 t rules h0 m0 p)(e:(ES t rules p.kg mv).2=0)(B:p.gx.length<5):I6 t rules h0 m0 (PS t rules p mv)/\I7 p.kg (N6 t rules p mv)/\ES t rules p.kg mv=(N6 t rules p mv,0)/\(N6 t rules p mv).j0=mv.j0:=by
 obtain ⟨a,s,A⟩:=Rk hf hr e;have ha:N6 t rules p mv=UY t (AA rules mv.eg) p.kg mv.j0:=by
  have:ES t rules p.kg mv=EW t (AA rules mv.eg) p.kg mv.j0:=by
   unfold ES;rw[ac U]
  unfold N6;rw[<-this,A]
 have w:ES t rules p.kg mv=(N6 t rules p mv,0):=by rw[ha];exact A
 have tk:I7 p.kg (N6 t rules p mv):=by rw[ha];exact s.trk
 have z:(Ed t rules h0 (p.gx++[mv]))=((Ed t rules h0 p.gx).1++[N6 t rules p mv],(N6 t rules p mv).ex):=by
  rw [Ob,<-g.kg,w]
 have f:=Ts (Ed t rules h0 p.gx).1 (Pv h0.dr);refine⟨⟨uP g.rep (by show p.gx.length<30;omega) (by show(ES t rules (Ed t rules h0 p.gx).2 mv).2=0;rw[<-g.kg];exact e),?_,?_,by show(p.gx++[mv]).length<=5;simp;omega⟩,tk,w,by rw[ha];rfl⟩
 .show(N6 t rules p mv).ex=(Ed t rules h0 (p.gx++[mv])).2;rw[z]
 .show C4 p.ll (N6 t rules p mv).kp=C4 m0 (MC _ (Ed t rules h0 (p.gx++[mv])).1);rw[z,g.ll,qU,m7]
  .intro x u;rw[f.1];show x<(At _).length;rw[Au];exact(v.node x u).2
  .intro x u;rw[f.2];show x<(At _).length;rw[Au];exact(v.edge x u).2
end Go.Sf.Sc
namespace Go.Sf.Sc
open Go Go.Sf
structure JP(t:AC)(rules:List eg)(h0:AF)(m0:d4)(depth i:Int)(l:List CE):Prop where
 good:∀p∈l,I6 t rules h0 m0 p/\(p.gx.length:Int)<=depth
 few:l.length<=300
 mono:∀a b:Int,0<=a->a<=b->b<l.length->(AA l a).gx.length<=(AA l b).gx.length
 next:i<l.length->∀q∈l,q.gx.length<=(AA l i).gx.length+1
section
variable{t:AC}{rules:List eg}{h0:AF}{m0:d4}{depth:Int}
variable{h:AF}{mv:C0}{i:Int}
theorem UU(u:0<=i)(i1:i<rules.length)(e:mv∈GT t rules h i):(ES t rules h mv).2=0:=by
 obtain ⟨x,f,rfl⟩:=w_.1 e;unfold ES;rw[ac (by dsimp only;omega)];exact xH f
theorem aA(e:mv∈(At rules.length).flatMap (GT t rules h)):(ES t rules h mv).2=0:=by
 obtain ⟨i,hi,f⟩:=List.mem_flatMap.1 e;have:=Dm.1 hi;exact UU this.1 this.2 f
def Qy(t:AC)(rules:List eg)(h0:AF)(m0:d4)(p:CE)(l s:List CE):Prop:=∃ext,s=l++ext/\s.length<=300/\∀q∈ext,I6 t rules h0 m0 q/\q.gx.length=p.gx.length+1
variable{p:CE}
theorem Vq(hf:Aq t)(hr:Ej rules)(A:IN m0 h0.dr)(g:I6 t rules h0 m0 p)(B:p.gx.length<5)(e:(ES t rules p.kg mv).2=0){l s s':List CE}(h:Qy t rules h0 m0 p l s)(f:OS t rules p mv s=Y s'):Qy t rules h0 m0 p l s':=by
 obtain ⟨ext,rfl,w,z⟩:=h;unfold OS at f;split at f
 .cases f
 split at f
 .cases f;exact⟨ext,rfl,w,z⟩
 split at f
 .cases f
 .rename_i v;cases f;have C:=(VB hf hr A g e B).1;rw[az]at w;simp only[az]at v;refine⟨ext++[PS t rules p mv],by rw[ci],a_,λq u=>?_⟩;rcases v?.1 u with u|u
  .exact z q u
  .obtain rfl:=A_.1 u;exact⟨C,by show(p.gx++[mv]).length=_;simp⟩
theorem eP(hf:Aq t)(hr:Ej rules)(u:IN m0 h0.dr)(g:I6 t rules h0 m0 p)(v:p.gx.length<5){l s:List CE}(w:l.length<=300)(h:PI t rules p l=Y s):Qy t rules h0 m0 p l s:=by
 unfold PI at h;split at h
 .exact U4 (I:=Qy t rules h0 m0 p l) (λmv f s s' z e=>Vq hf hr u g v (aA f) z e) ⟨[],V,w,λq A=>by cases A⟩ h
 .cases h
theorem dZ(hf:Aq t)(hr:Ej rules)(D:IN m0 h0.dr)(hd:depth<=4){l z:List CE}(h:JP t rules h0 m0 depth i l)(v:0<=i)(i1:i<l.length)(E:((AA l i).gx.length:Int)≠depth)(e:PI t rules (AA l i) l=Y z):JP t rules h0 m0 depth (i+1) z:=by
 obtain ⟨I,M⟩:=h.good _ (AI v i1);obtain⟨ext,rfl,J,w⟩:=eP hf hr D I U h.few e;have A:∀q∈l++ext,q.gx.length<=(AA l i).gx.length+1:=λq f=>by
  rcases v?.1 f with f|f
  .exact h.next i1 q f
  .exact Nat.le_of_eq (w q f).2
 have mono:∀a b:Int,0<=a->a<=b->b<(l++ext).length->(AA (l++ext) a).gx.length<=(AA (l++ext) b).gx.length:=λa b a0 F G=>by
  by_cases B:b<l.length
  .rw[Ri a0 U,Ri U B];exact h.mono a b a0 F B
  .have:AA (l++ext) b∈ext:=by
    obtain ⟨n,rfl⟩:=F? (show 0<=b by omega);rw[az]at G;have C:=nO (l:=l) (m:=ext) (n:=n-l.length);rw[show((l.length:Int)+((n-l.length:Nat):Int))=n by omega]at C;rw[C];exact AI U U
   rw [(w _ this).2];exact A _ (AI a0 U)
 refine ⟨λp u=>?_,J,mono,λk q f=>?_⟩
 .rcases v?.1 u with u|u
  .exact h.good p u
  .have:=w p u;exact⟨this.1,U⟩
 .have K:=A q f;have H:=mono i (i+1) v U k;rw[Ri v i1]at H;omega
theorem Wq{l:List CE}(h:JP t rules h0 m0 depth i l)(e:0<=i)(i1:i<l.length):JP t rules h0 m0 depth (i+1) l:=⟨h.good,h.few,h.mono,λk q f=>by
 have u:=h.next i1 q f
 have v:=h.mono i (i+1) e U k;omega⟩
theorem jO:∀(k:Nat)(i:Int)(l:List CE),0<=i->JP t rules h0 m0 depth i l->(i<l.length->((AA l i).gx.length:Int)=depth)->MA t rules depth k i l=Y l
 |0,_,_,_,_,_=>rfl|k+1,i,l,e,h,he=>by
  rw [MA];by_cases i1:i<l.length
  .rw[a6 i1,a6 (he i1)];refine jO k (i+1) l U (Wq h e i1) λi2=>?_;have f:=he i1;have u:=h.mono i (i+1) e U i2;have v:=(h.good _ (AI (i:=i+1) U i2)).2;omega
  .rw[ac i1]
variable{β ρ:Type}
theorem iT(hf:Aq t)(hr:Ej rules)(z:IN m0 h0.dr)(hd:depth<=4){f:List β×Int->Option (B5 (List β×Int) ρ)}(enc:List CE->List β)(e:ρ)
  (A:∀i l,0<=i->JP t rules h0 m0 depth i l->i<l.length->((AA l i).gx.length:Int)≠depth->f (enc l,i)=Y (match PI t rules (AA l i) l with|some F=>.next (enc F,i+1)|none=>.ret e))
  (B:∀i l,0<=i->JP t rules h0 m0 depth i l->i<l.length->((AA l i).gx.length:Int)=depth->f (enc l,i)=Y (.brk (enc l,i))\/f (enc l,i)=Y (.next (enc l,i+1)))
  (w:∀i l,0<=i->JP t rules h0 m0 depth i l->(l.length:Int)<=i->f (enc l,i)=Y (.brk (enc l,i))):
  ∀(k:Nat)(i:Int)(l:List CE),0<=i->JP t rules h0 m0 depth i l->301<=i+k->∃o,L8 f (enc l,i) o/\match MA t rules depth k i l with|some r=>∃j,o=.inl (enc r,j)|none=>o=.inr e
 |0,i,l,v,h,G=>⟨_,.brk (w i l v h (by have:=h.few;omega)),_,rfl⟩|k+1,i,l,v,h,G=>by
  by_cases i1:i<l.length
  case neg=>
   rw [MA,ac i1];exact⟨_,.brk (w i l v h U),_,rfl⟩
  by_cases ed:((AA l i).gx.length:Int)=depth
  .rcases B i l v h i1 ed with u|u
   .rw[jO (k+1) i l v h λ_=>ed];exact⟨_,.brk u,_,rfl⟩
   .rw[MA,a6 i1,a6 ed];obtain⟨o,D,E⟩:=iT hf hr z hd enc e A B w k (i+1) l U (Wq h v i1) U;exact⟨o,.next u D,E⟩
  .have u:=A i l v h i1 ed;rw[MA,a6 i1,ac ed];cases C:PI t rules (AA l i) l with
   |none=>
    rw [C]at u;exact⟨_,.ret u,rfl⟩
   |some F=>
    rw [C]at u;obtain⟨o,D,E⟩:=iT hf hr z hd enc e A B w k (i+1) F U (dZ hf hr z hd h v i1 ed C) U;exact⟨o,.next u D,E⟩
theorem Tk(hf:Aq t)(hr:Ej rules)(u:IN m0 h0.dr)(hd:depth<=4):∀(k:Nat)(i:Int)(l r:List CE),0<=i->JP t rules h0 m0 depth i l->MA t rules depth k i l=Y r->(∃j,JP t rules h0 m0 depth j r)/\∃ext,r=l++ext
 |0,i,l,r,w,h,e=>by cases e;exact⟨⟨_,h⟩,[],V⟩
 |k+1,i,l,r,w,h,e=>by
  rw [MA]at e;split at e
  case isFalse=>cases e;exact⟨⟨_,h⟩,[],V⟩
  rename_i i1;split at e
  .exact Tk hf hr u hd k _ l r U (Wq h w i1) e
  .rename_i ed;cases v:PI t rules (AA l i) l with
   |none=>rw[v]at e;cases e
   |some A=>
    rw [v]at e;obtain⟨a,ext,rfl⟩:=Tk hf hr u hd k _ A r U (dZ hf hr u hd h w i1 ed v) e;obtain⟨z,B⟩:=h.good _ (AI w i1);obtain⟨f,rfl,_⟩:=eP hf hr u z U h.few v;exact⟨a,f++ext,by rw[ci]⟩
theorem RM(hf:Aq t)(hr:Ej rules)(w:Gt t rules h0=0)(v:IN m0 h0.dr)(hd:0<=depth):JP t rules h0 m0 depth 0 [⟨[],h0,m0⟩]:=by
 have u:C4 m0 (Pv h0.dr)=m0:=by
  have f:∀{l:Fp}{n:Nat},(∀x∈l,-1<=x/\x<n)->CU l (At n)=l:=λ{l n}h=>by
   unfold CU
   conv=>rhs;rw[<-y_ l]
   refine B! λx z=>?_;have:=h x z;by_cases e:x<0
   .rw[a6 e];show -1=x;omega
   .rw[ac e,QD _ U this.2];rfl
  unfold C4 Pv;rw[f v.node,f v.edge]
 refine ⟨λp A=>?_,V,λa b a0 D B=>?_,λ_ q C=>?_⟩
 .obtain rfl:=A_.1 A;exact⟨⟨⟨w,V,λi E i1=>k!⟩,rfl,u.symm,V⟩,by simpa using hd⟩
 .simp at B;obtain rfl:a=0:=U
  obtain rfl:b=0:=U
  exact ae _
 .obtain rfl:=A_.1 C;simp
end
end Go.Sf.Sc
namespace Go.Sf.Sc
open Go Go.Sf
def Aai(m:d4):Bool:=hasB m.dl (-1)||hasB m.d3 (-1)
def RQ(strict:Bool)(p q:CE):Option d4:=
 if strict=X then(if(Aai p.ll||Aai q.ll)=X then W else GP p.kg q.kg p.ll q.ll)else GP p.kg q.kg ⟨[],[]⟩ ⟨[],[]⟩
def QO(strict:Bool)(L R:List CE)(s i k:Int):Option (CE×CE×d4):=
 if ((AA L i).gx.length:Int)+(AA R k).gx.length=s then(RQ strict (AA L i) (AA R k)).map λm=>(AA L i,AA R k,m)else W
def S7(strict:Bool)(L R:List CE)(s:Int):Option (CE×CE×d4):=fst (λi=>fst (QO strict L R s i) 0 R.length) 0 L.length
def Ym(strict:Bool)(L R:List CE)(depth:Int):Option (CE×CE×d4):=fst (S7 strict L R) 0 (2*depth+1)
variable{L R:List CE}
theorem oX{strict:Bool}{s i k:Int}{r:CE×CE×d4}(h:QO strict L R s i k=Y r):(r.1.gx.length:Int)+r.2.1.gx.length=s/\RQ strict r.1 r.2.1=Y r.2.2/\r.1=AA L i/\r.2.1=AA R k:=by
 unfold QO at h;split at h
 .rename_i e;cases f:RQ strict (AA L i) (AA R k)with
  |none=>rw[f]at h;cases h
  |some m=>
   rw [f]at h;cases h;exact⟨e,f,rfl,rfl⟩
 .cases h
theorem tC{strict:Bool}{s:Int}{r:CE×CE×d4}(h:S7 strict L R s=Y r):(r.1.gx.length:Int)+r.2.1.gx.length=s/\RQ strict r.1 r.2.1=Y r.2.2/\r.1∈L/\r.2.1∈R:=by
 obtain ⟨i,e,i1,f,_⟩:=CQ h;obtain⟨k,u,v,w,_⟩:=CQ f;obtain⟨a,b,c,d⟩:=oX w;exact⟨a,b,c▸AI e i1,d▸AI u v⟩
theorem eR(x:AF):Ud x ⟨[],[]⟩ ⟨[],[]⟩:=⟨rfl,rfl,V,V⟩
variable{x y:AF}{m:d4}
theorem jm(h:Sw x y m)(u:DD x)(sy:DD y)(xv:x.eb.length=x.dr.dl.length)(yv:y.eb.length=y.dr.dl.length)(ends:PD x):Tb x y m/\x.dr.dl.length=y.dr.dl.length/\x.dr.d3.length=y.dr.d3.length/\qk x y m 0:=by
 have l1:=h.nl;have l2:=h.el;have v:=u.ea;have w:=u.eh;have z:=sy.ea;have A:=sy.eh;refine⟨⟨l1,l2,U,U,U,U,xv,yv,ends,λk f=>?_,λk f=>?_⟩,h.nn,h.ee,λi e i1=>?_,λi e i1=>?_⟩
 .obtain⟨i,e,i1,rfl⟩:=BW f;exact h.nin i e U
 .obtain⟨i,e,i1,rfl⟩:=BW f;exact h.ein i e U
 .unfold RA;obtain⟨a,b⟩:=h.node i e i1;rw[ax h ends e i1,KJ.1 h.nd i e U,decide_eq_true a,decide_eq_true b];rfl
 .unfold Q8;rw[KJ.1 h.ed i e U,decide_eq_true (h.edge i e i1)];rfl
variable{p:CE}
theorem aU{t:AC}{rules:List eg}{h0:AF}{m0:d4}(g:I6 t rules h0 m0 p):JC t rules ⟨h0,p.gx⟩=(p.kg,MC (Pv h0.dr) (Ed t rules h0 p.gx).1,0):=by
 unfold JC;rw[ac (by rw[Yx.2 g.rep];simp)];rw[g.kg]
theorem Yu{f t l:Fp}(u:f.length=t.length)(v:∀x∈f,0<=x)(h:OK f t l):CU f l=t:=by
 refine Xr (by rw[E7];exact u) λi e i1=>?_;rw[E7]at i1;unfold CU;have:=v _ (AI e i1);rw[Dy e i1,ac U];exact(h i e i1).2 this
variable{l:Fp}{n:Nat}
theorem bG(h:∀x∈l,-1<=x/\x<n)(f:hasB l (-1)=T):∀x∈l,0<=x:=λx u=>by
 have:=h x u;have v:x≠-1:=λe=>by
  rw [<-D?,CF]at f;exact f (e▸u)
 omega
end Go.Sf.Sc
namespace Go.Sf
variable{σ ρ:Type}
theorem bw{f:σ×Int->Option (B5 (σ×Int) ρ)}(s:σ)(d:Int->Option σ){a b:Int}(z:a<=b)(h:∀i,a<=i->i<b->f (s,i)=Y (.next ((d i).getD s,i+1)))
  (hr:∀i r j,d i=Y r->f (r,j)=Y (.brk (r,j)))(hb:f (s,b)=Y (.brk (s,b))):∃j,Dv f (s,a)=Y (.inl ((fst d a b).getD s,j)):=by
 have u:∀(n:Nat)(a':Int),a<=a'->a'+n=b->∃j,L8 f (s,a') (.inl ((ER d n a').getD s,j)):=by
  intro n
  induction n with
  |zero=>
   intro a' _ e;obtain rfl:a'=b:=U
   exact ⟨_,.brk hb⟩
  |succ n A=>
   intro a' ha e;have k:=h a' ha U;rw[ER];cases v:d a' with
   |none=>
    rw [v]at k;obtain⟨j,w⟩:=A (a'+1) U U;exact⟨j,.next k w⟩
   |some r=>
    rw [v]at k;exact⟨_,.next k (.brk (hr a' r _ v))⟩
 obtain ⟨j,w⟩:=u (b-a).toNat a (Int.le_refl a) U;exact⟨j,w.eq⟩
end Go.Sf
namespace Go.Sf.Sc
open Go Go.Sf
theorem LB{b c:Bool}{o:K1}(h:b=X->o=Y c):(if b=X then o else Y T)=Y (b&&c):=by
 cases b with
 |true=>rw[a6 rfl,h rfl];rfl|false=>rfl
theorem If{b c:Bool}{o:K1}(h:b=T->o=Y c):(if b=X then Y X else o)=Y (b||c):=by
 cases b with
 |true=>rfl|false=>rw[ac a!,h rfl];rfl
def Q1(p:Int×Int)(o:Fp):Option Fp:=if decide (p.1<0)≠decide (p.2<0)then W else if p.1<0 then Y o else if 0<=AA o p.1/\AA o p.1≠p.2 then W else Y (BG o p.1 p.2)
theorem Tv:∀{e:List (Int×Int)}{o:Fp},S2 e o=FE Q1 e o
 |[],o=>rfl|p::e,o=>by
  rw [S2,FE];unfold Q1;split
  .rfl
  split
  .exact Tv
  split
  .rfl
  .exact Tv
def Yk(o:Option Fp):Fp×Bool:=match o with
 |some r=>(r,X)|none=>([],T)
theorem jg{o:Option Fp}:ei (Y (Z3 (ρ:=Fp×Bool) ([],T) o)) (λe=>Y (e,X)) (λf=>Y f)=Y (Yk o):=by cases o<;>rfl
variable{i:Int}
theorem kz{f t:Fp}(z:f.length=t.length)(e:0<=i)(i1:i<f.length):AA (f.zip t) i=(AA f i,AA t i):=by
 obtain ⟨n,rfl⟩:=F? e;have u:n<f.length:=U
 have v:n<t.length:=U
 have w:n<(f.zip t).length:=a_
 unfold AA;rw[G_,x!,w? w,x!,w? u,x!,w? v,B_];rfl
section
variable{a b:Int}{o:Fp}
theorem tX(h:¬decide (a<0)=decide (b<0)):Q1 (a,b) o=W:=by unfold Q1;rw[a6 h]
theorem tY(h:decide (a<0)=decide (b<0))(e:a<0):Q1 (a,b) o=Y o:=by unfold Q1;rw[ac c?,a6 e]
theorem tZ(h:decide (a<0)=decide (b<0))(e:¬a<0)(f:0<=AA o a/\AA o a≠b):Q1 (a,b) o=W:=by unfold Q1;rw[ac c?,ac e,a6 f]
theorem td(h:decide (a<0)=decide (b<0))(e:¬a<0)(f:¬(0<=AA o a/\AA o a≠b)):Q1 (a,b) o=Y (BG o a b):=by unfold Q1;rw[ac c?,ac e,ac f]
end
variable{n:Nat}
theorem fi(B:n<=1000){f t:Fp}(z:f.length=t.length)(hi:∀x∈f,x<n):Jc n f t=Y (Yk (PF n f t)):=by
 unfold Jc DC PF;have A:(f.length:Int)=(f.zip t).length:=by simp[z]
 rw [a6 ⟨rfl,U,U⟩,bs,Tv,A,<-jg,X7 Q1 ([],T) (λo=>o.length=n) V]
 .simp
 intro i o v i1 ho;have i2:i<f.length:=U
 have C:=hi _ (AI v i2);rw[kz z v i2,AD v i2,bs,AD v U,bs];by_cases e:decide (AA f i<0)=decide (AA t i<0)
 case neg=>rw[tX e,a6 d_];exact⟨rfl,λs' h=>c_⟩
 rw [ac d_];by_cases u:AA f i<0
 .rw[tY e u,a6 g_];exact⟨rfl,λs' h=>by cases h;exact ho⟩
 rw [ac g_,AD U U];simp only[bs];rw[LB (λ_=>rfl),bs];by_cases w:0<=AA o (AA f i)/\AA o (AA f i)≠AA t i
 .rw[tZ e u w,a6 n_];exact⟨rfl,λs' h=>c_⟩
 .rw[td e u w,ac n_];exact⟨rfl,λs' h=>by cases h;rw[KH];exact ho⟩
theorem gP(D:n<=1000){f t:Fp}(z:f.length=t.length)(hi:∀x∈f,x<n):L0 f t n=Y (Yk (PF n f t)):=by
 unfold L0 PF;have A:(f.length:Int)=(f.zip t).length:=by simp[z]
 have B:Hl (n:Int) (0:Int)=Y (y! n 0):=by
  unfold Hl;rw[a6 U];rfl
 rw [B,bs,Bo (λi=>y! i.toNat (-1:Int)++y! (n-i.toNat) 0) U V]
 .rw[bs,G_,Nat.sub_self,List.replicate_zero,C',Tv,A,<-jg,X7 Q1 ([],T) (λo=>o.length=n) V];intro i o e i1 ho;have i2:i<f.length:=U
  have E:=hi _ (AI e i2);rw[kz z e i2,AD e i2,bs,AD e U,bs,bs];by_cases u:decide (AA f i<0)=decide (AA t i<0)
  case neg=>rw[tX u,a6 g_,bs,a6 rfl];exact⟨rfl,λs' h=>c_⟩
  rw [ac g_];by_cases w:AA f i<0
  .rw[tY u w,ac a_,bs,ac a!,bs,bs,ac a!,bs,ac a_];exact⟨rfl,λs' h=>by cases h;exact ho⟩
  have C:decide (0<=AA f i)=X:=a_
  simp only[bs,C,if_true];rw[AD (l:=o) (i:=AA f i) U U];simp only[bs];rw[LB (λ_=>rfl)];simp only[bs];by_cases v:0<=AA o (AA f i)/\AA o (AA f i)≠AA t i
  .rw[tZ u w v,a6 (by simpa using v)];exact⟨rfl,λs' h=>c_⟩
  .rw[td u w v,ac (by simpa using v)];exact⟨rfl,λs' h=>by cases h;rw[KH];exact ho⟩
 .intro i e i1;rw[AD e a_,bs,XU e U]
end Go.Sf.Sc
namespace Go.Sf.Sc
open Go Go.Sf
structure Y6(x y:AF)(ns es:Fp):Prop where
 nl:ns.length=x.dr.dl.length
 el:es.length=x.dr.d3.length
 xn:x.dr.dl.length<=1000
 xe:x.dr.d3.length<=1000
 yn:y.dr.dl.length<=1000
 ye:y.dr.d3.length<=1000
 xv:x.eb.length=x.dr.dl.length
 yv:y.eb.length=y.dr.dl.length
 ends:PD x
def g6(x y:AF)(ns es mn me:Fp)(o:Option Fp):Bool×BV:=match o with
 |some r=>(X,⟨x,y,ns,es,⟨mn,r⟩⟩)|none=>(T,⟨x,y,ns,es,⟨mn,me⟩⟩)
variable{x y:AF}
theorem fg{ns es mn:Fp}(h:Y6 x y ns es)(v:mn.length=x.dr.dl.length):∀(k:Nat)(me:Fp),me.length+k=x.dr.d3.length->∀n,k<n->Bp n ⟨x,y,ns,es,⟨mn,me⟩⟩=Y (g6 x y ns es mn me (EE x y es mn k me))
 |0,me,A,n,B=>by
  obtain ⟨n,rfl⟩:∃q,n=q+1:=⟨n-1,U⟩;rw[Bp,a6 a_];rfl
 |k+1,me,A,n,B=>by
  obtain ⟨n,rfl⟩:∃q,n=q+1:=⟨n-1,U⟩;have C:=h.el;have D:=h.xe;have E:=h.ye;have u:=h.ends _ (AI (l:=x.dr.d3) (i:=(me.length:Int)) U U);rw[Bp];dsimp only;rw[ac a_,AD U U,bs,AD u.1.1 U,bs,AD u.2.1 U,bs,
   EN (a:=0) (b:=(y.dr.d3.length:Int)) (λ_=>(⟨x,y,ns,es,⟨mn,me⟩⟩:BV)) (λj=>(if MD x y es mn me me.length j=X then EE x y es mn k (me++[j])else W).map λr=>(X,(⟨x,y,ns,es,⟨mn,r⟩⟩:BV))) U rfl,Gb]
  .show _=Y (g6 x y ns es mn me (fst (λj=>if MD x y es mn me me.length j=X then EE x y es mn k (me++[j])else W) 0 y.dr.d3.length));cases fst (λj=>if MD x y es mn me me.length j=X then EE x y es mn k (me++[j])else W) 0 (y.dr.d3.length:Int)<;>rfl
  .intro j w z _;dsimp only;rw[AD w z,bs,AD (l:=es) U U];simp only[bs];rw[LB (λ_=>rfl),bs,P0];simp only[bs];rw[If (λ_=>rfl),bs];by_cases f:MD x y es mn me me.length j=X
   .have e:=f;simp only[MD,ne,E_,sA,D_]at e;rw[ac (by simp[e.1.2,e.2];omega),a6 f,AV b_,bs,fg h v k (me++[j]) a_ n U,bs];cases EE x y es mn k (me++[j])with
    |some r=>rfl|none=>
     rw [ac (by simp[g6])];dsimp only[g6];rw[Hw U a_,bs];simp[Y0]
   .rw[a6,ac f]
    .rfl
    .refine F! λg=>f ?_;simp only[E_,ne,D_,sA,decide_eq_false_iff_not,not_or,not_and,F_]at g;simp only[MD,ne,E_,sA,D_];exact⟨⟨by have:=g.1.1;omega,g.1.2⟩,D!.2 g.2⟩
def Z0(x y:AF)(ns es mn:Fp)(o:Option d4):Bool×BV:=match o with
 |some r=>(X,⟨x,y,ns,es,r⟩)|none=>(T,⟨x,y,ns,es,⟨mn,[]⟩⟩)
theorem ft{x y:AF}{ns es:Fp}(h:Y6 x y ns es):∀(k:Nat)(mn:Fp),mn.length+k=x.dr.dl.length->∀n,k<n->Bq n ⟨x,y,ns,es,⟨mn,[]⟩⟩=Y (Z0 x y ns es mn (PT x y ns es k mn))
 |0,mn,C,n,w=>by
  obtain ⟨n,rfl⟩:∃q,n=q+1:=⟨n-1,U⟩;rw[Bq,a6 a_];have e:Hz ⟨x,y,ns,es,⟨mn,[]⟩⟩=Y (g6 x y ns es mn [] (EE x y es mn x.dr.d3.length [])):=DK (x.dr.d3.length+1) λn w=>fg h U _ _ V n U;rw[e,bs];show _=Y (Z0 x y ns es mn ((EE x y es mn x.dr.d3.length []).map (d4.mk mn)));cases EE x y es mn x.dr.d3.length []<;>rfl
 |k+1,mn,C,n,w=>by
  obtain ⟨n,rfl⟩:∃q,n=q+1:=⟨n-1,U⟩;have D:=h.nl;have E:=h.xn;have F:=h.yn;have G:=h.xv;have H:=h.yv;rw[Bq];dsimp only;rw[ac a_,
   EN (a:=0) (b:=(y.dr.dl.length:Int)) (λ_=>(⟨x,y,ns,es,⟨mn,[]⟩⟩:BV)) (λj=>(if(J0 x y ns mn mn.length j&&R5 x y (mn++[j]) mn.length)=X then PT x y ns es k (mn++[j])else W).map λr=>(X,(⟨x,y,ns,es,r⟩:BV))) U rfl,Gb]
  .show _=Y (Z0 x y ns es mn (fst (λj=>if(J0 x y ns mn mn.length j&&R5 x y (mn++[j]) mn.length)=X then PT x y ns es k (mn++[j])else W) 0 y.dr.dl.length));cases fst (λj=>if(J0 x y ns mn mn.length j&&R5 x y (mn++[j]) mn.length)=X then PT x y ns es k (mn++[j])else W) 0 (y.dr.dl.length:Int)<;>rfl
  .intro j z B _;dsimp only;rw[AD z B,bs,AD (l:=ns) U U];simp only[bs];rw[LB (λ_=>rfl),bs,AD (l:=x.dr.dl) U U];simp only[bs];rw[If (λ_=>rfl),bs,P0];simp only[bs];rw[If (λ_=>rfl),bs,AD (l:=x.eb) U U,AD (l:=y.eb) z U];simp only[bs,KQ];rw[If (λ_=>rfl),bs];by_cases f:J0 x y ns mn mn.length j=X
   .have v:=f;simp only[J0,ne,E_,sA,D_]at v;have u:=bK (x:=x) (y:=y) (ns:=ns) (es:=es) (me:=[]) h.xe h.ye (mn:=mn++[j]) a_ (l:=mn.length) U a_;rw[z! V]at u;rw[ac (by simp[v.1.1.2,v.1.2,v.2];omega),AV b_,bs,u,bs,f,E'];have A:slc (mn++[j]) 0 (mn.length:Int)=Y mn:=by rw[Hw U a_];simp
    cases R5 x y (mn++[j]) mn.length with
    |false=>rw[ac a!,ac a!,A];rfl|true=>
     rw [a6 rfl,a6 rfl,ft h k (mn++[j]) a_ n U,bs];cases PT x y ns es k (mn++[j])with
     |some r=>rfl|none=>
      rw [ac (by simp[Z0])];dsimp only[Z0];rw[A];rfl
   .rw[a6,ac (by simp[f])]
    .rfl
    .refine F! λg=>f ?_;simp only[E_,ne,D_,sA,decide_eq_false_iff_not,not_or,not_and,F_]at g;simp only[J0,ne,E_,sA,D_];exact⟨⟨⟨by have:=g.1.1.1;omega,g.1.1.2⟩,D!.2 g.1.2⟩,g.2⟩
def mJ(o:Option d4):d4×Bool:=match o with
 |some r=>(r,X)|none=>(⟨[],[]⟩,T)
theorem XH{f t:d4}(w:DD x)(sy:DD y)(xv:x.eb.length=x.dr.dl.length)(yv:y.eb.length=y.dr.dl.length)(ends:PD x)(hi:Ud x f t):Db x y f t=Y (mJ (GP x y f t)):=by
 have E:=w.ea;have F:=w.eh;have G:=sy.ea;have H:=sy.eh;unfold Db GP;by_cases e:x.dr.dl.length=y.dr.dl.length/\x.dr.d3.length=y.dr.d3.length
 case neg=>rw[ac e,a6];rfl;simp;omega
 rw [a6 e,ac a_,fi U hi.nl hi.nin,bs,fi U hi.el hi.ein,bs];cases A:PF x.dr.dl.length f.dl t.dl with
 |none=>rfl|some ns=>
 cases B:PF x.dr.d3.length f.d3 t.d3 with
 |none=>rfl|some es=>
 rw [ac (by simp[Yk])];have z:=(OU (λp v=>by obtain⟨i,u,i1,rfl⟩:=(Ov hi.nl).1 v;have:=hi.nin _ (AI u i1);simpa using this) A).1;have le:=(OU (λp v=>by obtain⟨i,u,i1,rfl⟩:=(Ov hi.el).1 v;have:=hi.ein _ (AI u i1);simpa using this) B).1;rw[B']at z le;have g:Y6 x y ns es:=⟨z,le,U,U,U,U,xv,yv,ends⟩;have C:Ga ⟨x,y,ns,es,⟨[],[]⟩⟩=Y (Z0 x y ns es [] (PT x y ns es x.dr.dl.length [])):=DK (x.dr.dl.length+1) λn D=>ft g _ _ V n U;show(Ga ⟨x,y,ns,es,⟨[],[]⟩⟩).bind _=_;rw[C,bs,Wb e.1 e.2 ends _ _ V (λi u i1=>k!)];dsimp only;cases GQ x y ns es x.dr.dl.length []<;>rfl
end Go.Sf.Sc
namespace Go.Sf.Sc
open Go Go.Sf
def X9(x y:AF)(ns es:Fp)(o:Option d4):Av:=match o with
 |some r=>⟨x,y,ns,es,r,X⟩|none=>⟨x,y,ns,es,⟨[],[]⟩,T⟩
variable{x y:AF}
theorem gO{ns es mn:Fp}(h:Y6 x y ns es)(N:mn.length=x.dr.dl.length):∀(k:Nat)(me:Fp),me.length+k=x.dr.d3.length->∀n,k<n->B2 n (⟨x,y,ns,es,⟨[],[]⟩,T⟩:Av) mn me=Y (X9 x y ns es ((EE x y es mn k me).map (d4.mk mn)))
 |0,me,θ,n,ε=>by
  obtain ⟨n,rfl⟩:∃q,n=q+1:=⟨n-1,U⟩;have P:=h.xe;have Q:=h.xn;rw[B2];dsimp only;rw[a6 a_,BT a?,bs,BT a?];rfl
 |k+1,me,θ,n,ε=>by
  obtain ⟨n,rfl⟩:∃q,n=q+1:=⟨n-1,U⟩;have κ:=h.el;have P:=h.xe;have Q:=h.ye;have K:=h.ends _ (AI (l:=x.dr.d3) (i:=(me.length:Int)) U U);rw[B2];dsimp only;rw[ac a_,AD U U,bs];obtain⟨j,M⟩:=bw (ρ:=Av) (f:=λ(u:Av×Int)=>
   if ((decide (u.2<(u.1.b.dr.d3.length:Int)))&&(!u.1.wB))=X then
   (FZ me u.2).bind λD=>
   (if(!D)=X then((idx u.1.eh (me.length:Int)).bind λE=>
   (if(decide (E<0))=X then Y X else((idx u.1.eh (me.length:Int)).bind λF=>
   Y (decide (F=u.2)))).bind λG=>
   Y (G))else Y T).bind λH=>
   (if H=X then((idx u.1.b.dr.d3 u.2).bind λI=>
   (idx mn (AA x.dr.d3 me.length).hV).bind λv=>
   (idx mn (AA x.dr.d3 me.length).To).bind λw=>
   Y (decide (I=(CC.mk (AA x.dr.d3 me.length).ia v w))))else Y T).bind λz=>
   if z=X then
   (Am [] me).bind λA=>
   (Am A [u.2]).bind λB=>
   (B2 n u.1 mn B).bind λC=>
   Y (.next (C,Al (u.2+1)))
   else
   Y (.next (u.1,Al (u.2+1)))
   else
   Y (.brk (u.1,u.2))) (⟨x,y,ns,es,⟨[],[]⟩,T⟩:Av) (λj=>(if MD x y es mn me me.length j=X then EE x y es mn k (me++[j])else W).map λr=>(⟨x,y,ns,es,⟨mn,r⟩,X⟩:Av)) (a:=0) (b:=y.dr.d3.length) U (λj O J=>by
    dsimp only;rw[a6 (by simpa using J)];unfold FZ;rw[LD,bs,AD (l:=es) U U];simp only[bs];rw[If (λ_=>rfl)];simp only[bs];rw[LB (λ_=>rfl),bs,AD O J,AD K.1.1 U,AD K.2.1 U];simp only[bs];rw[LB (λ_=>rfl),bs];have hf:(!hasB me j&&(decide (AA es me.length<0)||decide (AA es me.length=j))&&decide (AA y.dr.d3 j=⟨(AA x.dr.d3 me.length).ia,AA mn (AA x.dr.d3 me.length).hV,AA mn (AA x.dr.d3 me.length).To⟩))=MD x y es mn me me.length j:=by
     unfold MD;cases hasB me j<;>simp[Bool.and_comm]
    rw [hf];cases MD x y es mn me me.length j with
    |false=>rw[ac a!,ac a!,Ar U U];rfl|true=>
     rw [a6 rfl,a6 rfl,BT a?,bs,AV b_,bs];have S:=gO h N k (me++[j]) a_ n U;rw[S,bs,Ar U U];cases EE x y es mn k (me++[j])<;>rfl) (λi r j e=>by
    cases hh:(if MD x y es mn me me.length i=X then EE x y es mn k (me++[i])else W)with
    |none=>rw[hh]at e;cases e
    |some η=>
     rw [hh]at e;cases e;dsimp only;rw[ac V]) (by dsimp only;rw[ac V])
  rw [Gb]at M;rw[M,Br];show Y ((Option.map _ (EE x y es mn (k+1) me)).getD _)=_;cases EE x y es mn (k+1) me<;>rfl
theorem gT{ns es:Fp}(h:Y6 x y ns es):∀(k:Nat)(mn:Fp),mn.length+k=x.dr.dl.length->∀n,k<n->B3 n (⟨x,y,ns,es,⟨[],[]⟩,T⟩:Av) mn=Y (X9 x y ns es (GQ x y ns es k mn))
 |0,mn,κ,n,N=>by
  obtain ⟨n,rfl⟩:∃q,n=q+1:=⟨n-1,U⟩;have e:ID (⟨x,y,ns,es,⟨[],[]⟩,T⟩:Av) mn []=Y (X9 x y ns es ((EE x y es mn x.dr.d3.length []).map (d4.mk mn))):=DK (x.dr.d3.length+1) λn N=>gO h U _ _ V n U;rw[B3,a6 a_,e,bs];rfl
 |k+1,mn,κ,n,N=>by
  obtain ⟨n,rfl⟩:∃q,n=q+1:=⟨n-1,U⟩;have η:=h.nl;have ζ:=h.xn;have δ:=h.yn;have Z:=h.xv;have h5:=h.yv;rw[B3];dsimp only;rw[ac a_];obtain⟨j,Q⟩:=bw (ρ:=Av) (f:=λ(u:Av×Int)=>
   if ((decide (u.2<(u.1.b.dr.dl.length:Int)))&&(!u.1.wB))=X then
   (FZ mn u.2).bind λC=>
   (if C=X then Y X else((idx u.1.ea (mn.length:Int)).bind λD=>
   (if(decide (0<=D))=X then((idx u.1.ea (mn.length:Int)).bind λE=>
   Y (!decide (E=u.2)))else Y T).bind λF=>
   Y (F))).bind λG=>
   (if G=X then Y X else((idx u.1.a.dr.dl (mn.length:Int)).bind λH=>
   (idx u.1.b.dr.dl u.2).bind λI=>
   Y (!decide (H=I)))).bind λJ=>
   (if J=X then Y X else((idx u.1.a.eb (mn.length:Int)).bind λK=>
   (idx u.1.b.eb u.2).bind λM=>
   (Dg K M).bind λv=>
   Y (!v))).bind λw=>
   if w=X then
   Y (.next (u.1,Al (u.2+1)))
   else
   (Am [] mn).bind λz=>
   (Am z [u.2]).bind λA=>
   (B3 n u.1 A).bind λB=>
   Y (.next (B,Al (u.2+1)))
   else
   Y (.brk (u.1,u.2))) (⟨x,y,ns,es,⟨[],[]⟩,T⟩:Av) (λj=>(if J0 x y ns mn mn.length j=X then GQ x y ns es k (mn++[j])else W).map λr=>(⟨x,y,ns,es,r,X⟩:Av)) (a:=0) (b:=y.dr.dl.length) U (λj O P=>by
    dsimp only;rw[a6 (by simpa using P)];unfold FZ;rw[LD,bs,AD (l:=ns) U U];simp only[bs];rw[LB (λ_=>rfl)];simp only[bs];rw[If (λ_=>rfl),bs,AD (l:=x.dr.dl) U U,AD O P];simp only[bs];rw[If (λ_=>rfl),bs,AD (l:=x.eb) U U,AD (l:=y.eb) O U];simp only[bs,WC];rw[If (λ_=>rfl),bs];have hf:(hasB mn j||(decide (0<=AA ns mn.length)&&!decide (AA ns mn.length=j))||!decide (AA x.dr.dl mn.length=AA y.dr.dl j)||!decide (AA x.eb mn.length=AA y.eb j))=!J0 x y ns mn mn.length j:=by
     unfold J0;have S:decide (0<=AA ns mn.length)=!decide (AA ns mn.length<0):=by
      by_cases g:AA ns mn.length<0
      .rw[decide_eq_true g,decide_eq_false U];rfl
      .rw[decide_eq_false g,decide_eq_true U];rfl
     have θ:decide (AA x.dr.dl mn.length=AA y.dr.dl j)=decide (AA y.dr.dl j=AA x.dr.dl mn.length):=by simp only[eq_comm]
     rw [S,θ];cases hasB mn j<;>cases decide (AA ns mn.length<0)<;>cases decide (AA ns mn.length=j)<;>cases decide (AA y.dr.dl j=AA x.dr.dl mn.length)<;>rfl
    rw [hf];cases J0 x y ns mn mn.length j with
    |false=>rw[a6 (show(!false)=true from rfl),ac a!,Ar U U];rfl|true=>
     rw [ac (show¬(!true)=true by decide),a6 rfl,BT a?,bs,AV b_,bs];have ε:=gT h k (mn++[j]) a_ n U;rw[ε,bs,Ar U U];cases GQ x y ns es k (mn++[j])<;>rfl) (λi r j e=>by
    cases hh:(if J0 x y ns mn mn.length i=X then GQ x y ns es k (mn++[i])else W)with
    |none=>rw[hh]at e;cases e
    |some r'=>
     rw [hh]at e;cases e;dsimp only;rw[ac V]) (by dsimp only;rw[ac V])
  rw [Gb]at Q;rw[Q,Br];show Y ((Option.map _ (GQ x y ns es (k+1) mn)).getD _)=_;cases GQ x y ns es (k+1) mn<;>rfl
theorem XL{f t:d4}(w:DD x)(sy:DD y)(xv:x.eb.length=x.dr.dl.length)(yv:y.eb.length=y.dr.dl.length)(ends:PD x)(hi:Ud x f t):GF x y f t=Y (mJ (GP x y f t)):=by
 have E:=w.ea;have F:=w.eh;have G:=sy.ea;have H:=sy.eh;unfold GF GP;by_cases e:x.dr.dl.length=y.dr.dl.length/\x.dr.d3.length=y.dr.d3.length
 case neg=>rw[ac e,a6];rfl;simp;omega
 rw [a6 e,ac a_,gP U hi.nl hi.nin,bs,gP U hi.el hi.ein,bs];cases A:PF x.dr.dl.length f.dl t.dl with
 |none=>rfl|some ns=>
 cases B:PF x.dr.d3.length f.d3 t.d3 with
 |none=>rfl|some es=>
 rw [ac (by simp[Yk])];have z:=(OU (λp u=>by obtain⟨i,v,i1,rfl⟩:=(Ov hi.nl).1 u;have:=hi.nin _ (AI v i1);simpa using this) A).1;have le:=(OU (λp u=>by obtain⟨i,v,i1,rfl⟩:=(Ov hi.el).1 u;have:=hi.ein _ (AI v i1);simpa using this) B).1;rw[B']at z le;have g:Y6 x y ns es:=⟨z,le,U,U,U,U,xv,yv,ends⟩;have C:F8 (⟨x,y,ns,es,⟨[],[]⟩,T⟩:Av) []=Y (X9 x y ns es (GQ x y ns es x.dr.dl.length [])):=DK (x.dr.dl.length+1) λn D=>gT g _ _ V n U;show(F8 (⟨x,y,ns,es,⟨[],[]⟩,T⟩:Av) []).bind _=_;rw[C,bs];dsimp only;cases GQ x y ns es x.dr.dl.length []<;>rfl
end Go.Sf.Sc
namespace Go.Sf.Sc
open Go Go.Sf
def Fo(h0:AF)(p:CE):Ax:=⟨⟨h0,p.gx⟩,p.kg,p.ll⟩
def Ir(p:CE):CO:=⟨p.gx,p.kg,p.ll⟩
instance:Inhabited Ax:=⟨Fo (default:CE).kg default⟩
instance:Inhabited CO:=⟨Ir default⟩
section
variable{t:AC}{rules:List eg}{h0:AF}{m0:d4}{depth:Int}
structure M4(m0:d4)(p:CE):Prop where
 sm:DD p.kg
 vl:p.kg.eb.length=p.kg.dr.dl.length
 ends:PD p.kg
 inn:IN p.ll p.kg.dr
 nl:p.ll.dl.length=m0.dl.length
 el:p.ll.d3.length=m0.d3.length
variable{p:CE}
theorem I6.fact(hf:Aq t)(hr:Ej rules)(u:IN m0 h0.dr)(g:I6 t rules h0 m0 p):M4 m0 p:=by
 obtain ⟨a,_,c,d,e,f⟩:=YE hf hr u g;obtain⟨x,y,z⟩:=VD (Oh hf d).2;exact⟨a,y,z,c,e,f⟩
variable{q:CE}
theorem Vx(a:M4 m0 p)(b:M4 m0 q):Ud p.kg p.ll q.ll:=⟨by rw[a.nl,b.nl],by rw[a.el,b.el],λk e=>(a.inn.node k e).2,λk e=>(a.inn.edge k e).2⟩
theorem vH(a:M4 m0 p)(b:M4 m0 q):HL (Fo h0 p) (Fo h0 q)=Y (PN p q):=by
 unfold HL NE;show((Db q.kg p.kg q.ll p.ll).bind _).bind _=_;rw[XH b.sm a.sm b.vl a.vl b.ends (Vx b a),bs,bs];unfold PN;rw[nf (Vx a b) (Vx b a) a.ends b.ends];cases GP q.kg p.kg q.ll p.ll<;>rfl
theorem vh{l:List CE}(f:∀p∈l,M4 m0 p)(b:M4 m0 q):LQ (l.map Ir) (Ir q)=Y (l.any λp=>PN p q):=by
 unfold LQ;rw[Ip,c9,BZ (λi=>PN (AA l i) q) X]
 .cases kl (λi=>PN (AA l i) q) 0 (l.length:Int)<;>rfl
 intro i e i1 _;have a:=f _ (AI e i1);rw[AD e d!,Dy e i1];simp only[bs];show((GF (AA l i).kg q.kg (AA l i).ll q.ll).bind _)=_;rw[XL a.sm b.sm a.vl b.vl a.ends (Vx a b),bs];unfold PN;cases GP (AA l i).kg q.kg (AA l i).ll q.ll<;>rfl
variable{i:Int}
theorem vJ(u:IN m0 h0.dr)(a:M4 m0 p)(v:p.gx.length<=5){m:AP}(tk:I7 p.kg (N6 t rules p ⟨i,m⟩))(f:(N6 t rules p ⟨i,m⟩).j0=m):FI (Fo h0 p) i (N6 t rules p ⟨i,m⟩)=Y (Fo h0 (PS t rules p ⟨i,m⟩)):=by
 unfold FI KS;dsimp only[Fo];rw[BT a?,bs,AV b_,bs,J3 a.inn.t1 (λx e=>by have:=a.inn.node x e;rw[tk.t1];exact this),bs,J3 a.inn.wl (λx e=>by have:=a.inn.edge x e;rw[tk.wl];exact this),bs,f];rfl
theorem dm{l s:List CE}(h:Qy t rules h0 m0 p l s)(e:0<=i)(i1:i<l.length):AA s i=AA l i/\i<s.length:=by
 obtain ⟨ext,rfl,_,_⟩:=h;exact⟨Ri e i1,a_⟩
theorem dn(hf:Aq t)(hr:Ej rules)(f:IN m0 h0.dr){l s:List CE}(u:∀q∈l,I6 t rules h0 m0 q)(h:Qy t rules h0 m0 p l s):∀q∈s,M4 m0 q:=by
 obtain ⟨ext,rfl,_,v⟩:=h;intro q e;rcases v?.1 e with e|e
 .exact(u q e).fact hf hr f
 .exact(v q e).1.fact hf hr f
theorem lM{l:List Ax}{f:Ax->K1}{p:Ax->Bool}(h:∀x∈l,f x=Y (p x)):CB l f=Y (l.any p):=FJ h
variable{k:Int}
theorem xr(hf:Aq t)(hr:Ej rules)(u:IN m0 h0.dr){l:List CE}(J:∀q∈l,I6 t rules h0 m0 q)(B:0<=i)(i1:i<l.length)(P:(AA l i).gx.length<5)(Q:0<=k)(S:k<rules.length){m:AP}(D:(ES t rules (AA l i).kg ⟨k,m⟩).2=0){s:List CE}(E:Qy t rules h0 m0 (AA l i) l s):
  ((idx (s.map (Fo h0)) i).bind λF=>
   (Fc t (AA rules k) F.Aav m).bind λe=>
   if (!decide (e.2=0))=X then
   Y (.ret (([]:List Ax),e.2))
   else
   if (decide (8<(e.1.ex.dr.dl.length:Int)))=X then
   Y (.ret ([],3))
   else
   (idx (s.map (Fo h0)) i).bind λG=>
   (FI G k e.1).bind λv=>
   (CB (s.map (Fo h0)) (λH=>HL H v)).bind λI=>
   if I=X then
   Y (.next (s.map (Fo h0)))
   else
   if (decide (((s.map (Fo h0)).length:Int)=300))=X then
   Y (.ret ([],3))
   else
   (Am (s.map (Fo h0)) [v]).bind λw=>
   Y (.next w))=Y (Wv ([],3) ((OS t rules (AA l i) ⟨k,m⟩ s).map (C! (Fo h0)))):=by
 have K:=J _ (AI B i1);have ε:=K.fact hf hr u;obtain⟨ζ,O⟩:=dm E B i1;obtain⟨δ,tk,Z,e4⟩:=VB hf hr u K D P;have κ:=δ.fact hf hr u;have z:=hr.each _ (AI (l:=rules) Q S);have η:EW t (AA rules k) (AA l i).kg m=(N6 t rules (AA l i) ⟨k,m⟩,0):=by
  rw [<-Z];unfold ES;rw[ac (by dsimp only;omega)]
 rw [AD B (by simpa using O),Dy B O,ζ];simp only[bs];show((Fc t (AA rules k) (AA l i).kg m).bind _)=_;rw[Yi hf z.1 z.2,η,bs,ac V];dsimp only;unfold OS;by_cases M:8<(N6 t rules (AA l i) ⟨k,m⟩).ex.dr.dl.length
 .rw[a6 a_,a6 M];rfl
 have A:CB (s.map (Fo h0)) (λH=>HL H (Fo h0 (PS t rules (AA l i) ⟨k,m⟩)))=Y (s.any λq=>PN q (PS t rules (AA l i) ⟨k,m⟩)):=by
  rw [lM (p:=λy=>PN ⟨y.d.ib,y.Aav,y.fd⟩ (PS t rules (AA l i) ⟨k,m⟩)),List.any_map]
  .rfl
  .intro x θ;obtain⟨q,hq,rfl⟩:=w_.1 θ;exact vH (dn hf hr u J E q hq) κ
 rw [ac a_,ac M,vJ u ε U tk e4,bs,A,bs];by_cases C:(s.any λq=>PN q (PS t rules (AA l i) ⟨k,m⟩))=X
 .rw[a6 C,a6 C];rfl
 rw [ac C,ac C,c9];by_cases f:s.length=300
 .rw[a6 (by simp[f]),a6 f];rfl
 .have N:s.length<=300:=by obtain⟨ext,rfl,h3,_⟩:=E;exact h3
  rw [ac a_,ac f,AV b_,bs];simp[Wv]
variable{mv:C0}
theorem yN(hf:Aq t)(hr:Ej rules)(G:IN m0 h0.dr){l:List CE}(S:∀q∈l,I6 t rules h0 m0 q)(H:0<=i)(i1:i<l.length)(Z:(AA l i).gx.length<5)(A:(ES t rules (AA l i).kg mv).2=0){s:List CE}(K:Qy t rules h0 m0 (AA l i) l s):
  ((idx rules mv.eg).bind λM=>
   (idx (s.map Ir) i).bind λN=>
   (Ei t M N.kg mv.j0).bind λe=>
   if (!decide (e.2=0))=X then
   Y (.ret (([]:List CO),e.2))
   else
   if (decide (8<(e.1.ex.dr.dl.length:Int)))=X then
   Y (.ret ([],3))
   else
   (idx (s.map Ir) i).bind λO=>
   (Am [] O.gx).bind λP=>
   (Am P [mv]).bind λf=>
   (idx (s.map Ir) i).bind λB=>
   (GG B.ll.dl e.1.kp.dl).bind λu=>
   (idx (s.map Ir) i).bind λC=>
   (GG C.ll.d3 e.1.kp.d3).bind λv=>
   (LQ (s.map Ir) (CO.mk f e.1.ex (d4.mk u v))).bind λD=>
   if D=X then
   Y (.next (s.map Ir))
   else
   if (decide (((s.map Ir).length:Int)=300))=X then
   Y (.ret ([],3))
   else
   (Am (s.map Ir) [CO.mk f e.1.ex (d4.mk u v)]).bind λE=>
   Y (.next E))=Y (Wv ([],3) ((OS t rules (AA l i) mv s).map (C! Ir))):=by
 have θ:=S _ (AI H i1);have I:=θ.fact hf hr G;obtain⟨e1,η⟩:=dm K H i1;obtain⟨gn,tk,e3,e4⟩:=VB hf hr G θ A Z;have fn:=gn.fact hf hr G;obtain⟨⟨ζ,δ⟩,_,_⟩:=Rk hf hr A;have F:=hr.each _ (AI (l:=rules) ζ δ);have e5:EW t (AA rules mv.eg) (AA l i).kg mv.j0=(N6 t rules (AA l i) mv,0):=by
  rw [<-e3];unfold ES;rw[ac U]
 rw [AD ζ δ,bs,AD H (by simpa using η),Dy H η,e1];simp only[bs];show((Ei t (AA rules mv.eg) (AA l i).kg mv.j0).bind _)=_;rw[gc hf F.1 F.2,e5,bs,ac V];dsimp only[Ir];unfold OS;by_cases ε:8<(N6 t rules (AA l i) mv).ex.dr.dl.length
 .rw[a6 a_,a6 ε];rfl
 have w:=vh (dn hf hr G S K) fn;have h4:(AA l i).gx.length<=5:=U
 rw [ac a_,ac ε,BT a?,bs,AV b_,bs,UK I.inn.t1 (λx Q=>by have:=I.inn.node x Q;rw[tk.t1];exact this),bs,UK I.inn.wl (λx Q=>by have:=I.inn.edge x Q;rw[tk.wl];exact this),bs];show((LQ (s.map Ir) (Ir (PS t rules (AA l i) mv))).bind _)=_;rw[w,bs];by_cases J:(s.any λq=>PN q (PS t rules (AA l i) mv))=X
 .rw[a6 J,a6 J];rfl
 rw [ac J,ac J,c9];by_cases z:s.length=300
 .rw[a6 (by simp[z]),a6 z];rfl
 .have κ:s.length<=300:=by obtain⟨ext,rfl,h3,_⟩:=K;exact h3
  rw [ac a_,ac z,AV b_,bs];simp[Wv];rfl
end
end Go.Sf.Sc
namespace Go.Sf.Sc
open Go Go.Sf
section
variable{t:AC}{rules:List eg}{h0:AF}{m0:d4}{depth:Int}
theorem kv{β ρ γ:Type}(hf:Aq t)(hr:Ej rules)(z:IN m0 h0.dr)(hd:depth<=4){f:List β×Int->Option (B5 (List β×Int) ρ)}{k:List β×Int->Option γ}{v:ρ->Option γ}{ζ:Option γ}(enc:List CE->List β)(e:ρ)
  (A:∀i l,0<=i->JP t rules h0 m0 depth i l->i<l.length->((AA l i).gx.length:Int)≠depth->f (enc l,i)=Y (match PI t rules (AA l i) l with|some G=>.next (enc G,i+1)|none=>.ret e))
  (B:∀i l,0<=i->JP t rules h0 m0 depth i l->i<l.length->((AA l i).gx.length:Int)=depth->f (enc l,i)=Y (.brk (enc l,i))\/f (enc l,i)=Y (.next (enc l,i+1)))
  (C:∀i l,0<=i->JP t rules h0 m0 depth i l->(l.length:Int)<=i->f (enc l,i)=Y (.brk (enc l,i)))
  {l:List CE}{w:List β×Int}(D:w=(enc l,0))(E:JP t rules h0 m0 depth 0 l)(ha:∀r j,MA t rules depth 301 0 l=Y r->k (enc r,j)=ζ)(hb:MA t rules depth 301 0 l=W->v e=ζ):ei (Dv f w) k v=ζ:=by
 subst D;obtain⟨o,F,u⟩:=iT hf hr z hd enc e A B C 301 0 l U E U;rw[F.eq];cases h:MA t rules depth 301 0 l with
 |none=>
  rw [h]at u;subst u;exact hb h
 |some r=>
  rw [h]at u;obtain⟨j,rfl⟩:=u;exact ha r j h
variable{i:Int}
theorem Qn{l:List CE}(h:JP t rules h0 m0 depth i l):∀q∈l,I6 t rules h0 m0 q:=λq e=>(h.good q e).1
variable{p:CE}{k:Int}
theorem aE(hf:Aq t)(hr:Ej rules)(u:IN m0 h0.dr)(f:I6 t rules h0 m0 p)(v:0<=k)(w:k<rules.length)(e:(Ff t (AA rules k) p.kg).2≠0):(Ff t (AA rules k) p.kg).2=3:=
 (uT hf ((vo f.rep.given).1 _ (AI v w)) (YE hf hr u f).2.2.2.1).resolve_left e
def Nk{β:Type}(enc:CE->β)(o:Option (List CE)):List β×Int:=match o with
 |some L=>(L.map enc,0)|none=>([],3)
theorem kD(hf:Aq t)(hr:Ej rules)(P:Gt t rules h0=0)(A:IN m0 h0.dr)(Q:0<=depth)(hd:depth<=4):IQ t rules (Fo h0 ⟨[],h0,m0⟩) depth=Y (Nk (Fo h0) (dE t rules depth ⟨[],h0,m0⟩)):=by
 unfold IQ;refine kv hf hr A hd (C! (Fo h0)) ([],3) (λi l f gb i1 F=>?_) (λi l f gb i1 he=>?_) (λi l f gb i1=>?_) (l:=[⟨[],h0,m0⟩]) rfl (RM hf hr P A Q) (λr j e=>?_) (λe=>?_)
 .have M:=Qn gb;have H:=M _ (AI f i1);have η:=(gb.good _ (AI f i1)).2;have w:=gb.few;have J:(AA l i).gx.length<5:=U
  dsimp only;rw[a6 d!,AD f d!,bs,Dy f i1,ac (by show¬decide (((AA l i).gx.length:Int)=depth)=X;simpa using F),Ar U U,
   PG (l:=At rules.length) (C! (Fo h0)) (λk S=>if(Ff t (AA rules k) (AA l i).kg).2=0 then FE (OS t rules (AA l i)) (GT t rules (AA l i).kg k) S else W) ([],3) (λ_=>Qy t rules h0 m0 (AA l i) l) rfl (by rw[Au]) ⟨[],V,w,λq θ=>by cases θ⟩,YI]
  .show ei (Y (Z3 _ ((PI t rules (AA l i) l).map _))) _ _=_;cases PI t rules (AA l i) l<;>rfl
  intro k s z v B;rw[Au]at v;have D:=hr.each _ (AI (l:=rules) z v);obtain⟨κ,O⟩:=dm B f i1;rw[QD _ z v,AD z v,bs,AD f (by simpa using O),bs,Dy f O,κ];show((FH t (AA rules k) (AA l i).kg).bind _)=_/\_;rw[xw hf D.1 D.2,bs];by_cases E:(Ff t (AA rules k) (AA l i).kg).2=0
  case neg=>
   rw [a6 (by simp[E]),ac E,aE hf hr A H z v E];exact⟨rfl,λs' h=>c_⟩
  rw [ac (by simp[E]),a6 E,
   PG (l:=GT t rules (AA l i).kg k) (C! (Fo h0)) (OS t rules (AA l i)) ([],3) (λ_=>Qy t rules h0 m0 (AA l i) l) rfl (by simp[GT]) B]
  .refine⟨by cases FE (OS t rules (AA l i)) (GT t rules (AA l i).kg k) s<;>rfl,λs' h=>?_⟩;exact U4 (I:=Qy t rules h0 m0 (AA l i) l) (λmv u s s' B e=>Vq hf hr A H J (UU z v u) B e) B h
  intro j s' G K C;have u:=UU (t:=t) z v (AI G K);have N:j<(Ff t (AA rules k) (AA l i).kg).1.length:=by simpa[GT]using K
  have ε:AA (GT t rules (AA l i).kg k) j=⟨k,AA (Ff t (AA rules k) (AA l i).kg).1 j⟩:=Dy G N;rw[ε]at u|-;rw[AD G N,bs];exact⟨xr hf hr A M f i1 J z v u C,λs2 h=>Vq hf hr A H J u C h⟩
 .right;have w:=gb.few;dsimp only;rw[a6 d!,AD f d!,bs,Dy f i1,a6 (by show decide (((AA l i).gx.length:Int)=depth)=X;simpa using he),Ar U U]
 .dsimp only;rw[ac d!]
 .show Y (_,_)=Y (Nk _ (MA t rules depth 301 0 _));rw[e];rfl
 .show Y (_,_)=Y (Nk _ (MA t rules depth 301 0 _));rw[e];rfl
theorem vT(hf:Aq t)(hr:Ej rules)(w:IN m0 h0.dr)(z:I6 t rules h0 m0 p):cx t rules p.kg=Y (if Uv t rules p.kg=X then((At rules.length).flatMap (GT t rules p.kg),0)else([],3)):=by
 have v:=hr.len;have hb:∀(is:Fp)(s:List C0),FE (λk s=>if(Ff t (AA rules k) p.kg).2=0 then Y (s++GT t rules p.kg k)else W) is s=if is.all (λi=>decide ((Ff t (AA rules i) p.kg).2=0))=X then Y (s++is.flatMap (GT t rules p.kg))else W:=by
  intro is
  induction is with
  |nil=>intro s;simp[FE]|cons k is A=>
   intro s;rw[FE,B?,C_];by_cases e:(Ff t (AA rules k) p.kg).2=0
   .rw[a6 e,decide_eq_true e,E',bs,A,ci]
   .rw[ac e,decide_eq_false e,E!];rfl
 unfold cx;rw[PG (l:=At rules.length) (λs=>s) (λk s=>if(Ff t (AA rules k) p.kg).2=0 then Y (s++GT t rules p.kg k)else W) ([],3) (λi s=>(s.length:Int)<=5000*i) rfl (by rw[Au]) V,hb]
 .show ei (Y (Z3 _ ((if Uv t rules p.kg=X then _ else W).map _))) _ _=_;cases Uv t rules p.kg<;>rfl
 intro k s u f B;rw[Au]at f;have C:=uU (t:=t) (r:=AA rules k) (h:=p.kg);rw[QD _ u f,AD u f,bs];by_cases e:(Ff t (AA rules k) p.kg).2=0
 .rw[ac b?,a6 e,p9 U,bs];refine⟨rfl,λs' h=>?_⟩;cases h;rw[GT,az,c9];omega
 .rw[a6 b?,ac e,aE hf hr w z u f e];exact⟨rfl,λs' h=>c_⟩
theorem gV(hf:Aq t)(hr:Ej rules)(F:Gt t rules h0=0)(v:IN m0 h0.dr)(G:0<=depth)(hd:depth<=4):Ia t rules (Ir ⟨[],h0,m0⟩) depth=Y (Nk Ir (dE t rules depth ⟨[],h0,m0⟩)):=by
 unfold Ia;refine kv hf hr v hd (C! Ir) ([],3) (λi l f gb i1 H=>?_) (λi l f gb i1 he=>?_) (λi l f gb i1=>?_) (l:=[⟨[],h0,m0⟩]) rfl (RM hf hr F v G) (λr j e=>?_) (λe=>?_)
 .have C:=Qn gb;have D:=C _ (AI f i1);have K:=(gb.good _ (AI f i1)).2;have u:=gb.few;have E:(AA l i).gx.length<5:=U
  dsimp only;rw[a6 d!,AD f d!,bs,Dy f i1,bs,a6 (by show decide (((AA l i).gx.length:Int)<depth)=X;simp;omega),bs];show((Ij t rules (AA l i).kg).bind _)=_;rw[ya hf hr,vT hf hr v D,bs,Ar U U];unfold PI;cases J:Uv t rules (AA l i).kg with
  |false=>rfl|true=>
  rw [a6 rfl,a6 rfl,ac V];dsimp only;rw[PG (l:=(At rules.length).flatMap (GT t rules (AA l i).kg)) (C! Ir) (OS t rules (AA l i)) ([],3) (λ_=>Qy t rules h0 m0 (AA l i) l) rfl rfl ⟨[],V,u,λq I=>by cases I⟩]
  .cases FE (OS t rules (AA l i)) ((At rules.length).flatMap (GT t rules (AA l i).kg)) l<;>rfl
  intro j s' A B w;have z:=aA (t:=t) (AI A B);rw[AD A B,bs];simp only[bs];exact⟨yN hf hr v C f i1 E z w,λs2 h=>Vq hf hr v D E z w h⟩
 .left;have u:=gb.few;dsimp only;rw[a6 d!,AD f d!,bs,Dy f i1,bs,ac (by show¬decide (((AA l i).gx.length:Int)<depth)=X;simp;omega)]
 .dsimp only;rw[ac d!,bs,ac a!]
 .show Y (_,_)=Y (Nk _ (MA t rules depth 301 0 _));rw[e];rfl
 .show Y (_,_)=Y (Nk _ (MA t rules depth 301 0 _));rw[e];rfl
end
end Go.Sf.Sc
namespace Go.Sf.Sc
open Go Go.Sf
def TH(a b:Fp)(n:Nat):Fp:=(At n).filter λi=>decide (0<=AA a i)&&decide (0<=AA b i)
def Jx(a b:AR):BC:=⟨TH a.kp.dl b.kp.dl a.fl.dr.dl.length,TH a.kp.d3 b.kp.d3 a.fl.dr.d3.length⟩
variable{σ:Type}{n:Nat}
theorem a7{a b:Fp}(ha:a.length=n)(hb:b.length=n)(B:n<=1000)(mk:Fp->σ){f:Int->σ->Option σ}(hf:∀i l,f i (mk l)=((idx a i).bind λu=>(if(decide (0<=u))=X then((idx b i).bind λv=>Y (decide (0<=v)))else Y T).bind λw=>if w=X then(Am l [i]).bind λz=>Y (mk z)else Y (mk l))){s:σ}(A:s=mk []):ls f 0 n s=Y (mk (TH a b n)):=by
 subst A;rw[Bo (λi=>mk (((At n).take i.toNat).filter λi=>decide (0<=AA a i)&&decide (0<=AA b i))) U V]
 .rw[G_,z! (by rw[Au];omega)];rfl
 intro i e i1;rw[hf,AD e U,bs,AD e U,bs,LB (λ_=>rfl),bs,BJ (l:=At n) e (by rw[Au];exact i1),QD _ e i1,List.filter_append];cases h:(decide (0<=AA a i)&&decide (0<=AA b i))with
 |true=>
  have C:(((At n).take i.toNat).filter λi=>decide (0<=AA a i)&&decide (0<=AA b i)).length<=1000:=Nat.le_trans (C? _ _) (by rw[bk,Au];omega);rw[a6 rfl,AV (by simp only[List.length_singleton];unfold AY;omega),bs];simp[h]
 |false=>rw[ac a!];simp[h]
section
variable{t:AC}{rules:List eg}{a b:AR}{depth:Int}{strict:Bool}
theorem VR(h:a.fl=b.fl)(ta:I7 a.fl a)(tb:I7 b.fl b)(sm:DD a.fl):GA a b=Y (Jx a b,0):=by
 have u:=ta.t1;have v:=ta.wl;have e:=tb.t1;have f:=tb.wl;have w:=sm.ea;have z:=sm.eh;rw[<-h]at e f;unfold GA;rw[Rm,bs,ac (by simp[h];rw[<-h];omega),a7 u e w (λl=>BC.mk l []) (λ_ _=>rfl) rfl,bs,a7 v f z (λl=>BC.mk (TH a.kp.dl b.kp.dl a.fl.dr.dl.length) l) (λ_ _=>rfl) rfl,bs];rfl
theorem oe(h:a.fl=b.fl)(ta:I7 a.fl a)(tb:I7 b.fl b)(wa:Gr a.fl)(wb:Gr b.fl):Mr a b=Y (Jx a b,0):=by
 rw [<-VR h ta tb wa.s];unfold Mr GA;rw[Rm,TN wa wb]
variable{n:Nat}
theorem V0{l m:Fp}(f:n<=1000):(TH l m n).length<=1000/\∀x∈TH l m n,(0<=x/\x<n)/\0<=AA l x/\0<=AA m x:=by
 refine ⟨Nat.le_trans (C? _ _) (by rw[Au];exact f),λx u=>?_⟩;obtain⟨v,e⟩:=List.mem_filter.1 u;simp only[ne,sA]at e;exact⟨Dm.1 v,e⟩
theorem xJ(sm:DD a.fl):WL a.fl (Jx a b):=
 ⟨(V0 sm.ea).1,(V0 sm.eh).1,λx e=>((V0 sm.ea).2 x e).1,λx e=>((V0 sm.eh).2 x e).1⟩
noncomputable def Ew(t:AC)(rules:List eg)(a b:AR):Int:=if Dj t rules≠0 then Dj t rules else if(Gp t a&&Gp t b)=T then 1 else if a.fl=b.fl then 0 else 8
def Qg:pr:=⟨C1,C1,⟨[],[]⟩⟩
noncomputable def RS(t:AC)(rules:List eg)(a b:AR)(depth:Int):Option (List CE):=dE t rules depth ⟨[],a.ex,DF a (Jx a b)⟩
noncomputable def Pf(t:AC)(rules:List eg)(a b:AR)(depth:Int):Option (List CE):=dE t rules depth ⟨[],b.ex,DF b (Jx a b)⟩
def lV(a b:AR)(o:Option (CE×CE×d4)):pr×Int:=match o with
 |some r=>(⟨⟨a.ex,r.1.gx⟩,⟨b.ex,r.2.1.gx⟩,r.2.2⟩,0)|none=>(Qg,10)
noncomputable def Gs(t:AC)(rules:List eg)(a b:AR)(depth:Int)(strict:Bool):pr×Int:=
 if Ew t rules a b≠0 then(Qg,Ew t rules a b)
 else if depth<0\/4<depth then(Qg,6)
 else if 8<a.ex.dr.dl.length\/8<b.ex.dr.dl.length then(Qg,3)
 else match RS t rules a b depth,Pf t rules a b depth with
  |some L,Y R=>lV a b (Ym strict L R depth)|_,_=>(Qg,3)
structure Uq(t:AC)(rules:List eg)(a b:AR):Prop where
 rz:Dj t rules=0
 ca:Gp t a=X
 cb:Gp t b=X
 eq:a.fl=b.fl
theorem Uc(h:Ew t rules a b=0):Uq t rules a b:=by
 unfold Ew at h;split at h
 next k=>exact absurd h k
 rename_i k;split at h
 .cases h
 rename_i e;split at h
 next f=>simp only[E?,ne]at e;exact⟨F_.1 k,e.1,e.2,f⟩
 .cases h
end
end Go.Sf.Sc
namespace Go.Sf
variable{σ ρ:Type}
theorem wN{f:σ×Int->Option (B5 (σ×Int) ρ)}(s:σ)(c:Int->Option ρ){a b:Int}(z:a<=b)(h:∀i,a<=i->i<b->f (s,i)=Y (match c i with|some v=>.ret v|none=>.next (s,i+1)))(hb:f (s,b)=Y (.brk (s,b))):Dv f (s,a)=Y (match fst c a b with|some v=>.inr v|none=>.inl (s,b)):=by
 have u:∀(n:Nat)(a':Int),a<=a'->a'+n=b->L8 f (s,a') (match ER c n a' with|some v=>.inr v|none=>.inl (s,b)):=by
  intro n
  induction n with
  |zero=>
   intro a' _ e;obtain rfl:a'=b:=U
   exact .brk hb
  |succ n A=>
   intro a' ha e;have k:=h a' ha U;rw[ER];cases w:c a' with
   |none=>
    rw [w]at k;exact .next k (A (a'+1) U U)
   |some r=>
    rw [w]at k;exact .ret k
 exact (u (b-a).toNat a (Int.le_refl a) U).eq
end Go.Sf
namespace Go.Sf.Sc
open Go Go.Sf
variable{σ ρ:Type}
theorem Z2{s:σ}{o:Option ρ}:ei (Y (iG s o)) (λs2=>Y (B5.next s2)) (λe=>Y (B5.ret e))=Y (Y0 s o):=by cases o<;>rfl
section
variable{t:AC}{rules:List eg}{a b:AR}{depth:Int}{strict:Bool}{m0 m1:d4}
structure cZ(m0 m1:d4)(L R:List CE):Prop where
 l:∀p∈L,M4 m0 p/\p.gx.length<=5
 r:∀p∈R,M4 m1 p/\p.gx.length<=5
 nl:m0.dl.length=m1.dl.length
 el:m0.d3.length=m1.d3.length
variable{L R:List CE}
theorem cZ.inn(h:cZ m0 m1 L R):∀p∈L,∀q∈R,Ud p.kg p.ll q.ll:=λp u q v=>by
 have f:=(h.l p u).1;have g:=(h.r q v).1;exact⟨by rw[f.nl,g.nl,h.nl],by rw[f.el,g.el,h.el],λk e=>(f.inn.node k e).2,λk e=>(f.inn.edge k e).2⟩
def UF(x y:AF)(r:CE×CE×d4):pr×Int:=(⟨⟨x,r.1.gx⟩,⟨y,r.2.1.gx⟩,r.2.2⟩,0)
theorem kA(x:AF)(p:CE):DX (Fo x p)=Y (Aai p.ll):=by
 unfold DX Aai;rw[P0,bs,P0];simp only[bs];rw[If (λ_=>rfl),bs];rfl
variable{x y:AF}
theorem vK(h:cZ m0 m1 L R){s i k:Int}(H:0<=i)(i1:i<L.length)(E:0<=k)(F:k<R.length){z:pr}:
  ((idx (R.map (Fo y)) k).bind λu=>
   (if(!decide ((Al (((Fo x (AA L i)).d.ib.length:Int)+(u.d.ib.length:Int)))=s))=X then Y X else((if strict=X then((DX (Fo x (AA L i))).bind λw=>
   (if w=X then Y X else((DX u).bind λA=>
   Y (A))).bind λB=>
   Y (B))else Y T).bind λC=>
   Y (C))).bind λD=>
   if D=X then
   Y (.next z)
   else
   if strict=X then
   (Db (Fo x (AA L i)).Aav u.Aav (Fo x (AA L i)).fd u.fd).bind λv=>
   if v.2=X then
   Y (.ret (pr.mk (Fo x (AA L i)).d u.d v.1,0))
   else
   Y (.next z)
   else
   (Db (Fo x (AA L i)).Aav u.Aav (d4.mk [] []) (d4.mk [] [])).bind λv=>
   if v.2=X then
   Y (.ret (pr.mk (Fo x (AA L i)).d u.d v.1,0))
   else
   Y (.next z))=Y (Y0 z ((QO strict L R s i k).map (UF x y))):=by
 obtain ⟨f,I⟩:=h.l _ (AI H i1);obtain⟨g,J⟩:=h.r _ (AI E F);have hi:=h.inn _ (AI H i1) _ (AI E F);rw[AD E (by simpa using F),bs,Dy E F,kA,kA];simp only[bs];rw[If (λ_=>rfl)];simp only[bs];rw[LB (λ_=>rfl)];simp only[bs];rw[If (λ_=>rfl),bs];show(if(!decide (Al (((AA L i).gx.length:Int)+(AA R k).gx.length)=s)||_)=X then _ else if strict=X then(Db (AA L i).kg (AA R k).kg (AA L i).ll (AA R k).ll).bind _ else(Db (AA L i).kg (AA R k).kg _ _).bind _)=_;rw[Ar U U];unfold QO RQ;by_cases e:((AA L i).gx.length:Int)+(AA R k).gx.length=s
 case neg=>rw[a6 b?,ac e];rfl
 rw [a6 e];cases strict with
 |true=>
  rw [a6 (rfl:X=X)];by_cases G:(Aai (AA L i).ll||Aai (AA R k).ll)=X
  .rw[a6 (by simp only[G];simp),a6 G];rfl
  .rw[ac (by simp only[e,G];simp),ac G,a6 rfl,XH f.sm g.sm f.vl g.vl f.ends hi,bs];cases GP (AA L i).kg (AA R k).kg (AA L i).ll (AA R k).ll<;>rfl
 |false=>
  rw [ac b?,ac a!,ac a!,XH f.sm g.sm f.vl g.vl f.ends (eR _),bs];cases GP (AA L i).kg (AA R k).kg ⟨[],[]⟩ ⟨[],[]⟩<;>rfl
variable{p q:CE}
theorem om(hi:Ud p.kg p.ll q.ll)(f:M4 m0 p)(g:M4 m1 q):Ms (Ir p) (Ir q) strict=Y (mJ (RQ strict p q)):=by
 unfold Ms RQ;cases strict with
 |false=>
  rw [a6 a!,ac a!];show((GF p.kg q.kg _ _).bind _)=_;rw[XL f.sm g.sm f.vl g.vl f.ends (eR _),bs]
 |true=>
  rw [ac a!,a6 rfl,kL,bs,kL];simp only[bs];rw[If (λ_=>rfl),bs];show(if(Aai p.ll||Aai q.ll)=X then _ else(GF p.kg q.kg p.ll q.ll).bind _)=_;by_cases e:(Aai p.ll||Aai q.ll)=X
  .rw[a6 e,a6 e];rfl
  .rw[ac e,ac e,XL f.sm g.sm f.vl g.vl f.ends hi,bs]
end
end Go.Sf.Sc
namespace Go.Sf.Sc
open Go Go.Sf
structure Uo(t:AC)(rules:List eg)(a b:AR):Prop where
 hf:Aq t
 hr:Ej rules
 fa:Hq a.eg
 ka:De a.eg.d5<=40
 fb:Hq b.eg
 kb:De b.eg.d5<=40
section
variable{t:AC}{rules:List eg}{a b:AR}{depth:Int}{strict:Bool}
variable{s:AR}
theorem bj(hf:Aq t)(fr:Hq s.eg)(u:De s.eg.d5<=40)(rz:Dj t rules=0)(h:Gp t s=X):Gt t rules s.ex=0:=by
 unfold Gp at h;simp only[ne,sA]at h;obtain⟨o,e⟩:=Td hf fr u h.1;have f:=ZH.1 h.2;rw[e]at f;have v:s.ex=O1 t s.eg s.fl s.j0:=by
  have:=congrArg AR.ex f;exact this.symm
 unfold Gt;rw[ac (by simp[rz]),v,WM o]
structure wV(t:AC)(rules:List eg)(a b:AR):Prop where
 ta:I7 a.fl a
 tb:I7 b.fl b
 wa:Gr a.fl
 wb:Gr b.fl
 ga:Gt t rules a.ex=0
 gb:Gt t rules b.ex=0
 ma:IN (DF a (Jx a b)) a.ex.dr
 mb:IN (DF b (Jx a b)) b.ex.dr
 pa:WL a.fl (Jx a b)
 pb:WL b.fl (Jx a b)
theorem Pl(f:Uo t rules a b)(v:Uq t rules a b):wV t rules a b:=by
 obtain ⟨wa,ta,sa⟩:=Vu f.hf f.fa f.ka v.ca;obtain⟨wb,tb,sb⟩:=Vu f.hf f.fb f.kb v.cb;have pa:WL a.fl (Jx a b):=xJ wa.s;have pb:WL b.fl (Jx a b):=v.eq▸pa;exact⟨ta,tb,wa,wb,bj f.hf f.fa f.ka v.rz v.ca,bj f.hf f.fb f.kb v.rz v.cb,YJ pa ta,YJ pb tb,pa,pb⟩
variable{L R:List CE}
theorem S6(f:Uo t rules a b)(v:Uq t rules a b)(z:0<=depth)(hd:depth<=4)(A:RS t rules a b depth=Y L)(B:Pf t rules a b depth=Y R):
  (∀p∈L,I6 t rules a.ex (DF a (Jx a b)) p)/\(∀p∈R,I6 t rules b.ex (DF b (Jx a b)) p)/\cZ (DF a (Jx a b)) (DF b (Jx a b)) L R:=by
 have g:=Pl f v;obtain⟨⟨j,u⟩,_⟩:=Tk f.hf f.hr g.ma hd 301 0 _ L U (RM f.hf f.hr g.ga g.ma z) A;obtain⟨⟨C,w⟩,_⟩:=Tk f.hf f.hr g.mb hd 301 0 _ R U (RM f.hf f.hr g.gb g.mb z) B;refine⟨Qn u,Qn w,λp e=>⟨(Qn u p e).fact f.hf f.hr g.ma,(Qn u p e).few⟩,λp e=>⟨(Qn w p e).fact f.hf f.hr g.mb,(Qn w p e).few⟩,?_,?_⟩
 .show(CU _ _).length=(CU _ _).length;rw[E7,E7]
 .show(CU _ _).length=(CU _ _).length;rw[E7,E7]
theorem wF(h:Dj t rules≠0):Ew t rules a b=Dj t rules:=by unfold Ew;rw[a6 h]
theorem wG(h:Dj t rules=0)(e:(Gp t a&&Gp t b)=T):Ew t rules a b=1:=by unfold Ew;rw[ac k?,a6 e]
theorem wH(h:Dj t rules=0)(e:Gp t a=X/\Gp t b=X):Ew t rules a b=if a.fl=b.fl then 0 else 8:=by unfold Ew;rw[ac k?,ac (by simp[e.1,e.2])]
theorem d8(h:Ew t rules a b≠0):Gs t rules a b depth strict=(Qg,Ew t rules a b):=by unfold Gs;rw[a6 h]
theorem d9(h:Ew t rules a b=0)(e:depth<0\/4<depth):Gs t rules a b depth strict=(Qg,6):=by unfold Gs;rw[ac k?,a6 e]
theorem eA(h:Ew t rules a b=0)(e:¬(depth<0\/4<depth))(f:8<a.ex.dr.dl.length\/8<b.ex.dr.dl.length):Gs t rules a b depth strict=(Qg,3):=by unfold Gs;rw[ac k?,ac e,a6 f]
theorem eC(h:Ew t rules a b=0)(e:¬(depth<0\/4<depth))(f:¬(8<a.ex.dr.dl.length\/8<b.ex.dr.dl.length)):Gs t rules a b depth strict=(match RS t rules a b depth,Pf t rules a b depth with
  |some L,Y R=>lV a b (Ym strict L R depth)|_,_=>(Qg,3)):=by unfold Gs;rw[ac k?,ac e,ac f];rfl
theorem j8(f:Uo t rules a b):Ku t rules a b depth strict=Y (Gs t rules a b depth strict):=by
 unfold Ku;rw[gD f.hf f.hr f.fa f.ka f.fb f.kb,bs];show(if(!decide (Ew t rules a b=0))=X then Y (_,Ew t rules a b)else _)=_;by_cases hv:Ew t rules a b=0
 case neg=>rw[d8 hv,a6 l?];rfl
 rw [ac l?];by_cases e:depth<0\/4<depth
 .rw[d9 hv e,a6 d_];rfl
 rw [ac d_];by_cases z:8<a.ex.dr.dl.length\/8<b.ex.dr.dl.length
 .rw[eA hv e z,a6 a_];rfl
 have v:=Uc hv;have g:=Pl f v;rw[eC hv e z,ac a_,VR v.eq g.ta g.tb g.wa.s,bs,ac V,UH g.pa g.ta g.ta.sm,bs];have w:IQ t rules ⟨⟨a.ex,[]⟩,a.ex,DF a (Jx a b)⟩ depth=Y (Nk (Fo a.ex) (RS t rules a b depth)):=kD f.hf f.hr g.ga g.ma U U;have s2:IQ t rules ⟨⟨b.ex,[]⟩,b.ex,DF b (Jx a b)⟩ depth=Y (Nk (Fo b.ex) (Pf t rules a b depth)):=kD f.hf f.hr g.gb g.mb U U;dsimp only;rw[w,bs];cases C:RS t rules a b depth with
 |none=>rfl|some L=>
 rw [ac (by simp[Nk]),UH g.pb g.tb g.tb.sm,bs,s2,bs];cases D:Pf t rules a b depth with
 |none=>rfl|some R=>
 rw [ac (by simp[Nk])];obtain⟨_,_,E⟩:=S6 f v U U C D;dsimp only[Nk];rw[Ar (n:=2*depth) U U,Ar (n:=2*depth+1) U U,c9,c9,
  EN (a:=0) (b:=2*depth+1) (λ_=>(⟨C1,C1,⟨[],[]⟩⟩:pr)) (λs=>(S7 strict L R s).map (UF a.ex b.ex)) U rfl,Gb]
 .show _=Y (lV a b (fst (S7 strict L R) 0 (2*depth+1)));cases fst (S7 strict L R) 0 (2*depth+1)<;>rfl
 intro s F w _;rw[EN (a:=0) (b:=(L.length:Int)) (λ_=>(⟨C1,C1,⟨[],[]⟩⟩:pr)) (λi=>(fst (QO strict L R s i) 0 R.length).map (UF a.ex b.ex)) U rfl,Gb,Z2]
 .rfl
 intro i u i1 _;rw[AD u d!,bs,Dy u i1,EN (a:=0) (b:=(R.length:Int)) (λ_=>(⟨C1,C1,⟨[],[]⟩⟩:pr)) (λk=>(QO strict L R s i k).map (UF a.ex b.ex)) U rfl,Gb,Z2];intro k A B _;exact vK E u i1 A B
theorem kJ(f:Uo t rules a b)(wa:Gr a.ex)(wb:Gr b.ex):NV t rules a b depth strict=Y (Gs t rules a b depth strict):=by
 have w:N3 t rules a b depth=Y (if Ew t rules a b≠0 then Ew t rules a b else if depth<0\/4<depth then 6 else if 8<a.ex.dr.dl.length\/8<b.ex.dr.dl.length then 3 else 0):=by
  unfold N3;rw[bV f.hf f.hr,bs];by_cases h:Dj t rules=0
  case neg=>rw[wF h,a6 k?,a6 h]
  rw [ac k?,gN f.hf f.fa f.ka wa,bs,gN f.hf f.fb f.kb wb];simp only[bs];rw[If (λ_=>rfl),bs];by_cases A:(Gp t a&&Gp t b)=T
  .rw[wG h A,a6 (by cases u:Gp t a<;>cases z:Gp t b<;>simp_all),a6 a!]
  simp only[E?,ne]at A;rw[wH h A,ac (by simp[A.1,A.2]),TN (Vu f.hf f.fa f.ka A.1).1 (Vu f.hf f.fb f.kb A.2).1,bs];by_cases he:a.fl=b.fl
  case neg=>rw[ac he,a6 u!,a6 a!]
  rw [a6 he,ac u!,ac (c:=(0:Int)≠0) a!];by_cases u:depth<0\/4<depth
  .rw[a6 u,a6 g_]
  rw [ac u,ac g_];by_cases z:8<a.ex.dr.dl.length\/8<b.ex.dr.dl.length
  .rw[a6 z,a6 a_]
  .rw[ac z,ac a_]
 unfold NV;by_cases hv:Ew t rules a b=0
 case neg=>rw[a6 hv]at w;rw[d8 hv,w,bs,a6 l?];rfl
 rw [ac l?]at w;by_cases u:depth<0\/4<depth
 .rw[a6 u]at w;rw[d9 hv u,w,bs,a6 V];rfl
 rw [ac u]at w;by_cases z:8<a.ex.dr.dl.length\/8<b.ex.dr.dl.length
 .rw[a6 z]at w;rw[eA hv u z,w,bs,a6 V];rfl
 rw [ac z]at w;have v:=Uc hv;have g:=Pl f v;rw[eC hv u z,w,bs,ac V,oe v.eq g.ta g.tb g.wa g.wb,bs,gZ g.pa g.ta,bs];have F:Ia t rules ⟨[],a.ex,DF a (Jx a b)⟩ depth=Y (Nk Ir (RS t rules a b depth)):=gV f.hf f.hr g.ga g.ma U U;have s2:Ia t rules ⟨[],b.ex,DF b (Jx a b)⟩ depth=Y (Nk Ir (Pf t rules a b depth)):=gV f.hf f.hr g.gb g.mb U U;dsimp only;rw[F,bs];cases G:RS t rules a b depth with
 |none=>rfl|some L=>
 rw [ac (by simp[Nk]),gZ g.pb g.tb,bs,s2,bs];cases H:Pf t rules a b depth with
 |none=>rfl|some R=>
 rw [ac (by simp[Nk])];obtain⟨_,_,E⟩:=S6 f v U U G H;dsimp only[Nk];rw[wN (a:=0) (b:=2*depth+1) (⟨C1,C1,⟨[],[]⟩⟩:pr) (λs=>(S7 strict L R s).map (UF a.ex b.ex)) U,Gb]
 .show _=Y (lV a b (fst (S7 strict L R) 0 (2*depth+1)));cases fst (S7 strict L R) 0 (2*depth+1)<;>rfl
 .intro s K F;dsimp only;rw[Ar (n:=2*depth) U U,a6 a_,c9,c9,Ar (n:=s+1) U U,
   EN (a:=0) (b:=(L.length:Int)) (λ_=>(⟨C1,C1,⟨[],[]⟩⟩:pr)) (λi=>(fst (QO strict L R s i) 0 R.length).map (UF a.ex b.ex)) U rfl,Gb]
  .show ei (Y (iG _ ((S7 strict L R s).map (UF a.ex b.ex)))) _ _=_;cases S7 strict L R s<;>rfl
  intro i B i1 _;rw[EN (a:=0) (b:=(R.length:Int)) (λ_=>(⟨C1,C1,⟨[],[]⟩⟩:pr)) (λk=>(QO strict L R s i k).map (UF a.ex b.ex)) U rfl,Gb,Z2];intro k C D _;obtain⟨I,M⟩:=E.l _ (AI B i1);obtain⟨J,N⟩:=E.r _ (AI C D);have hi:=E.inn _ (AI B i1) _ (AI C D);rw[AD B d!,bs,Dy B i1,AD C (by simpa using D),bs,Dy C D];simp only[bs];unfold QO;by_cases e:((AA L i).gx.length:Int)+(AA R k).gx.length=s
  case neg=>
   rw [ac e,a6]
   .rfl
   .show(!decide (Al (((AA L i).gx.length:Int)+(AA R k).gx.length)=s))=X;rw[Ar U U];simp[e]
  rw [a6 e,ac,om hi I J,bs,VY g.ta.sm,VY g.tb.sm]
  .cases RQ strict (AA L i) (AA R k)<;>rfl
  .show¬(!decide (Al (((AA L i).gx.length:Int)+(AA R k).gx.length)=s))=X;rw[Ar U U];simp[e]
 .dsimp only;rw[Ar (n:=2*depth) U U,ac a_]
end
end Go.Sf.Sc
namespace Go.Sf.Sc
open Go Go.Sf
section
variable{t:AC}{rules:List eg}{a b:AR}{depth:Int}{strict:Bool}
theorem uc(f:Uo t rules a b)(e:(Gs t rules a b depth strict).2=0):∃L R r,Uq t rules a b/\(0<=depth/\depth<=4)/\RS t rules a b depth=Y L/\Pf t rules a b depth=Y R/\Ym strict L R depth=Y r/\Gs t rules a b depth strict=UF a.ex b.ex r:=by
 by_cases hv:Ew t rules a b=0
 case neg=>rw[d8 hv]at e;exact absurd e hv
 by_cases u:depth<0\/4<depth
 .rw[d9 hv u]at e;cases e
 by_cases w:8<a.ex.dr.dl.length\/8<b.ex.dr.dl.length
 .rw[eA hv u w]at e;cases e
 rw [eC hv u w]at e|-;cases v:RS t rules a b depth with
 |none=>rw[v]at e;cases e
 |some L=>
 cases z:Pf t rules a b depth with
 |none=>rw[v,z]at e;cases e
 |some R=>
 rw [v,z]at e;dsimp only at e|-;cases A:Ym strict L R depth with
 |none=>rw[A]at e;cases e
 |some r=>exact⟨L,R,r,Uc hv,U,rfl,rfl,A,rfl⟩
theorem lb:((Gs t rules a b depth strict).1.fu.gp=a.ex/\(Gs t rules a b depth strict).1.ec.gp=b.ex)\/(Gs t rules a b depth strict).1=Qg:=by
 unfold Gs;split
 .exact .inr rfl
 split
 .exact .inr rfl
 split
 .exact .inr rfl
 split
 .rename_i L R _ _;cases Ym strict L R depth with
  |none=>exact .inr rfl|some r=>exact .inl ⟨rfl,rfl⟩
 .exact .inr rfl
theorem q9(f:Uo t rules a b)(v:Uq t rules a b){j:pr}(A:j.fu.gp=a.ex)(B:j.ec.gp=b.ex)(C:(JC t rules j.fu).2.2=0)(D:(JC t rules j.ec).2.2=0)(e:Sw (JC t rules j.fu).1 (JC t rules j.ec).1 j.Iso)(i1:j.Iso.dl.length<=1000)(i2:j.Iso.d3.length<=1000):
  HI t rules a b j=Y (X,TT a b (Jx a b) (JC t rules j.fu).2.1 (JC t rules j.ec).2.1 j.Iso):=by
 have g:=Pl f v;have hv:(if Dj t rules≠0 then Dj t rules else if(Gp t a&&Gp t b)=T then 1 else if a.fl=b.fl then 0 else 8)=(0:Int):=by
  rw [ac (by simp[v.rz]),ac (by simp[v.ca,v.cb]),a6 v.eq]
 unfold HI;rw[gD f.hf f.hr f.fa f.ka f.fb f.kb,hv,bs,J1 (λ_=>Rm _ _),bs,J1 (λ_=>Rm _ _),bs,
  ac (by simp[A,B]),j7 f.hf f.hr,bs,j7 f.hf f.hr,bs,ac (by simp[C,D])]
 have fx:=nc f.hf f.hr C;have fy:=nc f.hf f.hr D;obtain⟨G,u,w⟩:=VD fx.ok;obtain⟨H,z,_⟩:=VD fy.ok;obtain⟨I,E,F⟩:=yD fx.small fy.small u z w j.Iso;have hb:=F.2 (jm e fx.small fy.small u z w);subst hb;rw[E,bs,bs,ac (show¬(!X)=X by decide),VR v.eq g.ta g.tb g.wa.s,bs];exact vQ ⟨g.ta,g.tb,g.pa,g.pb,⟨_,A,fx⟩,⟨_,B,fy⟩,(jm e fx.small fy.small u z w).1,i1,i2,g.ta.sm,g.tb.sm⟩
theorem nu(p q:d4):hasB ([p.dl,p.d3,q.dl,q.d3].flatten) (-1)=(Aai p||Aai q):=by
 unfold Aai;simp only[List.flatten_cons,List.flatten_nil,C',uj,Bool.or_assoc]
theorem X3(f:Uo t rules a b)(e:(Gs t rules a b depth strict).2=0):∃s,HI t rules a b (Gs t rules a b depth strict).1=Y (X,s)/\(strict=X->s=X):=by
 obtain ⟨L,R,r,v,hd,K,M,N,O⟩:=uc f e;have g:=Pl f v;obtain⟨s,_,_,h,_⟩:=CQ N;obtain⟨_,w,B,C⟩:=tC h;obtain⟨I,gr,A⟩:=S6 f v hd.1 hd.2 K M;have F:=aU (I _ B);have fr:=aU (gr _ C);obtain⟨z,_⟩:=A.l _ B;obtain⟨J,_⟩:=A.r _ C;have hi:=A.inn _ B _ C;have u:Sw r.1.kg r.2.1.kg r.2.2/\(strict=X->Aai r.1.ll=T/\Aai r.2.1.ll=T/\OK r.1.ll.dl r.2.1.ll.dl r.2.2.dl/\OK r.1.ll.d3 r.2.1.ll.d3 r.2.2.d3):=by
  unfold RQ at w;split at w
  .split at w
   .cases w
   next E=>simp only[E_,not_or,D?]at E;obtain⟨a1,G,H⟩:=Tt hi w;exact⟨a1,λ_=>⟨E.1,E.2,G,H⟩⟩
  next D=>exact⟨(Tt (eR _) w).1,λk=>absurd k D⟩
 have l1:=u.1.nl;have l2:=u.1.el;have Q:=z.sm.ea;have S:=z.sm.eh;rw[O];refine⟨_,q9 f v rfl rfl (by show(JC t rules ⟨a.ex,r.1.gx⟩).2.2=0;rw[F]) (by show(JC t rules ⟨b.ex,r.2.1.gx⟩).2.2=0;rw[fr]) (by show Sw (JC t rules ⟨a.ex,r.1.gx⟩).1 (JC t rules ⟨b.ex,r.2.1.gx⟩).1 r.2.2;rw[F,fr];exact u.1) (by show r.2.2.dl.length<=1000;omega) (by show r.2.2.d3.length<=1000;omega),λD=>?_⟩;obtain⟨a1,G,H,P⟩:=u.2 D;show TT a b (Jx a b) (JC t rules ⟨a.ex,r.1.gx⟩).2.1 (JC t rules ⟨b.ex,r.2.1.gx⟩).2.1 r.2.2=X;rw[F,fr];unfold TT;dsimp only;rw[<-(I _ B).ll,<-(gr _ C).ll,nu,ac (by simp[a1,G])];unfold Aai at a1;simp only[D']at a1;rw[Yu (by rw[z.nl,J.nl,A.nl]) (bG z.inn.node a1.1) H,Yu (by rw[z.el,J.el,A.el]) (bG z.inn.edge a1.2) P];simp
end
variable{d:BX}
theorem bh(h:Gr d.gp):Ep d d=Y X:=by
 unfold Ep;rw[TN h h,bs,ac V,BZ (λ_=>T) T]
 .rw[show kl (λ_=>T) 0 (d.ib.length:Int)=T from Bw.2 λ_ _ _=>rfl];rfl
 .intro i e i1 _;rw[AD e i1];simp only[bs,gY];simp
theorem Yz{j:pr}(e:Gr j.fu.gp)(f:Gr j.ec.gp):IK j j=Y X:=by
 unfold IK;rw[bh e,bs,a6 rfl,bh f,bs,bs,a6 rfl,WE,bs,bs];simp
variable{s:AR}
theorem WZ{t:AC}(st:(AK t).Sm)(u:(Bg s).Sm)(v:(Bg s).WF):∃b,FG t s=Y b/\(b=X->Hq s.eg/\De s.eg.d5<=40/\Gr s.ex):=by
 obtain ⟨A,w⟩:=jH u v;obtain⟨B,C,D⟩:=ST st;obtain⟨E,F,G⟩:=nZ (h:=s.ex);have z:∃b,HO t s.eg s.fl=Y b/\(b=X->Hq s.eg/\De s.eg.d5<=40):=by
  cases B with
  |false=>exact⟨T,by unfold HO;rw[C];rfl,λh=>c_⟩
  |true=>
   obtain ⟨b,e,f⟩:=jq (D rfl) st A s.fl;exact⟨b,e,f⟩
 obtain ⟨H,I,J⟩:=z;unfold FG NU Jk;rw[I,bs];cases H with
 |false=>exact⟨T,rfl,λh=>c_⟩
 |true=>
 obtain ⟨K,M⟩:=J rfl;rw[a6 rfl,F,bs,bs];cases E with
 |false=>exact⟨T,rfl,λh=>c_⟩
 |true=>
 refine ⟨_,by simp only[bs,if_true];rw[dV rfl,bs,dV rfl,bs],λ_=>⟨K,M,G rfl,w⟩⟩
theorem yu{t:AC}{rules:List eg}{a b:AR}{depth:Int}{e f u:Bool}(v:Ly t rules a.fl=Y e)(w:FG t a=Y f)(z:FG t b=Y u):∃c,KG t rules a b depth=Y c/\(c=X->e=X/\f=X/\u=X):=by
 unfold KG NX;rw[v,bs,J1 (λ_=>w),bs,J1 (λ_=>z),bs,J1 (λ_=>rfl),bs,J1 (λ_=>rfl),bs];split
 .exact⟨T,rfl,λh=>c_⟩
 .rename_i h;simp only[E_,not_or,D?,Bool.not_eq_false']at h;obtain⟨⟨⟨⟨B,C⟩,D⟩,_⟩,_⟩:=h;rw[BZ (λi=>!((((decide (((AA rules i).fu.dr.dl.length:Int)<=2))&&(decide (((AA rules i).fu.dr.d3.length:Int)<=2)))&&(decide (((AA rules i).ec.dr.dl.length:Int)<=(Al (((AA rules i).fu.dr.dl.length:Int)+1)))))&&(decide (((AA rules i).ec.dr.d3.length:Int)<=(Al (((AA rules i).fu.dr.d3.length:Int)+1)))))) T]
  .split
   .exact⟨T,rfl,λh=>c_⟩
   .exact⟨_,rfl,λ_=>⟨B,C,D⟩⟩
  .intro i A i1 _;rw[AD A i1,bs,bs];split<;>rfl
theorem WS{t:AC}{x:Kv}{depth:Int}(st:(AK t).Sm)(v:(EF x).Sm)(w:(EF x).WF):∃c,KG t x.Aao x.A x.B depth=Y c/\(c=X->Uo t x.Aao x.A x.B/\Gr x.A.ex/\Gr x.B.ex):=by
 have f:TV.Sms (_::_):=v;have u:TV.p0 (_::_):=w;have z:(Bg x.A).Sm:=UX 38 f.2;have C:(Bg x.B).Sm:=UX 38 (iF 38 f.2);have D:(Bg x.A).WF:=Xd 38 u.2;have E:(Bg x.B).WF:=Xd 38 (Xb 38 u.2);have F:=(NG (e:=Bt) f.1).2;obtain⟨η,G,H⟩:=uu st F x.A.fl;obtain⟨ζ,I,J⟩:=WZ st z D;obtain⟨δ,K,M⟩:=WZ st C E;obtain⟨c,e,k⟩:=yu (depth:=depth) G I K;refine⟨c,e,λh=>?_⟩;obtain⟨N,O,P⟩:=k h;obtain⟨hf,hr⟩:=H N;obtain⟨a1,Q,S⟩:=J O;obtain⟨θ,ε,κ⟩:=M P;exact⟨⟨hf,hr,a1,Q,θ,ε⟩,S,κ⟩
theorem b7:Gr C1.gp:=⟨⟨by simp[C1],by simp[C1],by simp[C1],λv hv=>by simp[C1]at hv⟩,λv hv=>by simp[C1]at hv⟩
theorem SU{t:AC}{rules:List eg}{a b:AR}{depth:Int}{strict:Bool}(wa:Gr a.ex)(wb:Gr b.ex):IK (Gs t rules a b depth strict).1 (Gs t rules a b depth strict).1=Y X:=by
 rcases lb (t:=t) (rules:=rules) (a:=a) (b:=b) (depth:=depth) (strict:=strict)with h|h
 .exact Yz (h.1▸wa) (h.2▸wb)
 .rw[h];exact Yz b7 b7
theorem cN(t:AC)(x:Kv)(depth:Int)(st:(AK t).Sm)(v:(EF x).Sm)(w:(EF x).WF):NF t x depth=Y X:=by
 obtain ⟨c,e,k⟩:=WS (depth:=depth) st v w;unfold NF Sb RY;rw[dX,bs,J1 (λ_=>e),bs];by_cases h:(!X||!c)=X
 .rw[a6 h,bs]
 rw [ac h];obtain⟨f,wa,wb⟩:=k c?;rw[j8 f,bs,bs,kJ f wa wb,bs,bs,J1 (λ_=>SU wa wb),bs];dsimp only;by_cases u:(Gs t x.Aao x.A x.B depth T).2=0
 .obtain⟨s,z,_⟩:=X3 f u;rw[ac l_,z,bs]
 .rw[a6 l_,a6 V,SU wa wb];rfl
theorem Yo(t:AC)(x:Kv)(depth:Int)(st:(AK t).Sm)(v:(EF x).Sm)(w:(EF x).WF):LE t x depth=Y X:=by
 obtain ⟨c,e,k⟩:=WS (depth:=depth) st v w;unfold LE J2 Pd;rw[dX,bs,J1 (λ_=>e),bs];by_cases h:(!X||!c)=X
 .rw[a6 h,bs]
 rw [ac h];obtain⟨f,wa,wb⟩:=k c?;rw[j8 f,bs,bs,kJ f wa wb,bs,bs,J1 (λ_=>SU wa wb),bs];dsimp only;by_cases u:(Gs t x.Aao x.A x.B depth X).2=0
 .obtain⟨s,z,C⟩:=X3 f u;rw[ac l_,z,bs,C rfl];rfl
 .rw[a6 l_,a6 V,SU wa wb];rfl
end Go.Sf.Sc
