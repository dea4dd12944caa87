/- Plain lemmas: what the functions of the program and of the reference compute. -/
import Derived.Test.YtjgaphkmbjbdkaaGreatP96
set_option linter.all false
set_option maxRecDepth 100000
namespace Go.Sf.Sc
open Go Go.Sf
variable{t:AC}{c:Int}
theorem YU{k:Int}(g:Eh t k):∀(n m:Nat)(a b:Int),a<k->a<n->b<m->b∈Jl t n a->c∈Jl t m b->c∈Jl t n a
 |0,_,_,_,_,_,_,f,_=>by simp[Jl]at f|n+1,m,a,b,q,v,u,f,j=>by
  rw [Jl]at f|-;split at f
  .cases f
  .rename_i o;rw[ae o];have w:=g a (by omega) q;rcases List.mem_cons.1 f with rfl|f
   .have e:=jw g m (n+1) b q u v;rw[e,Jl,ae o]at j;exact j
   .exact List.mem_cons_of_mem _ (YU g n m (par t a) b (by omega) (by omega) u f j)
theorem Xw(h:E0 t){a b c:Int}(k:a<t.d3.length)(f:GD t a b=true)(g:GD t b c=true):GD t a c=true:=by
 unfold GD at f g|-;rw[List.any_eq_true]at f g|-;obtain⟨x,o,e⟩:=f;obtain⟨y,q,j⟩:=g;rw[t2]at e j;subst e;subst j;exact⟨c,YU h.par _ _ a b k (by omega) (by omega) o q,by simp⟩
theorem kU(h:E0 t){e f g b j:Int}(hf:0<=b/\b<t.d3.length)(k:0<=j/\j<t.d3.length)(o:GD t b f=true)(q:GD t j g=true)(a:Mx t e f g=true):Mx t e b j=true:=by
 unfold Mx at a|-;simp only[o4,MA]at a|-;exact⟨⟨⟨a.1.1.1,hf,k⟩,a.1.2⟩,Xw h hf.2 o a.2.1,Xw h k.2 q a.2.2⟩
end Go.Sf.Sc
namespace Go.Sf.Sc
open Go Go.Sf
variable{t:AC}{r:eg}
theorem bK(h:FU t r=0):(∀x∈ES r,(AA t.d3 (AA r.ee.d5.d3 x)).wa=false)/\∀x∈J2 r,Ix t r.ee.d5 x=true:=by
 have a:U1 t r.ee.d5 (ES r) (J2 r)=true:=by grind[FU]
 unfold U1 at a;rw[o4,Bool.not_eq_true',Bool.not_eq_true',List.any_eq_false,List.any_eq_false]at a;exact⟨fun x b=>by simpa using a.1 x b,fun x b=>by simpa using a.2 x b⟩
abbrev gS(t:AC)(r:eg)(h:AF)(m:AL):AF:=Cm t r (CB h (dS r h m)) (cS r h m)
variable{h:AF}
theorem HT.ei{m:AL}(s:HT t r h m):∀e∈(gS t r h m).d5.d4,((0<=e.ib/\e.ib<(gS t r h m).d5.d3.length)/\0<=e.To/\e.To<(gS t r h m).d5.d3.length)/\Mx t e.jj (AA (gS t r h m).d5.d3 e.ib) (AA (gS t r h m).d5.d3 e.To)=true:=by
 intro e he;have el:(gS t r h m).d5.d3=(dS r h m).d3.map (AA h.d5.d3)++(ES r).map (AA r.ee.d5.d3):=rfl;have he:e∈(dS r h m).d4.map (fun x=>U2 (Ft h (dS r h m)).d3 (AA h.d5.d4 x))++(J2 r).map (fun k=>U2 (cS r h m).d3 (AA r.ee.d5.d4 k)):=he;rcases List.mem_append.1 he with he|he
 .obtain⟨x,w,rfl⟩:=List.mem_map.1 he;have v:=Tn (ac s.part).2;have b:=v.ei.1 x w;have a:=v.ends x w;have hf:=(s.hh.g.fit _ (AI b.1 b.2)).2;have D:=(SS s.he).2 x b.1 b.2;have fit:Ix t h.d5 x=true:=by
   unfold KZ at D
   grind
  have at_:∀y,y∈(dS r h m).d3->0<=y->y<h.d5.d3.length->(0<=AA (Ft h (dS r h m)).d3 y/\AA (Ft h (dS r h m)).d3 y<(gS t r h m).d5.d3.length)/\AA (gS t r h m).d5.d3 (AA (Ft h (dS r h m)).d3 y)=AA h.d5.d3 y:=fun y A B C=>by
   have hi:=IF A;rw[show AA (Ft h (dS r h m)).d3 y=DJ (dS r h m).d3 y from Su B C,el,ba,ca];refine⟨⟨hi.1,by have:=hi.2.1;push_cast;omega⟩,?_⟩;rw[gU hi.1 (by rw[ca];exact hi.2.1),Nh hi.1 hi.2.1,hi.2.2.1]
  obtain ⟨a1,q⟩:=at_ _ a.1 hf.1.1 hf.1.2;obtain⟨o,u⟩:=at_ _ a.2 hf.2.1 hf.2.2;refine⟨⟨a1,o⟩,?_⟩;simp only[U2];rw[q,u];exact fit
 .obtain⟨k,z,rfl⟩:=List.mem_map.1 he;have f:0<=k/\k<r.ee.d5.d4.length:=Fm z;have hf:=(s.ro.right.fit _ (AI f.1 f.2)).2;obtain⟨a1,E,q⟩:=s.Abs hf.1.1 hf.1.2;obtain⟨o,F,u⟩:=s.Abs hf.2.1 hf.2.2;have j:=s.put.kind;refine⟨⟨a1,o⟩,?_⟩;exact kU (C4 s.hv) ⟨(j _ (AI a1.1 a1.2)).1,E⟩ ⟨(j _ (AI o.1 o.2)).1,F⟩ q u ((bK s.re).2 k z)
end Go.Sf.Sc
namespace Go.Sf.Sc
open Go Go.Sf
def eK(t:AC)(k:Int)(v:Fp):Prop:=v.length=(A6 t k).length/\∀j:Int,0<=j->j<v.length->(AA (A6 t k) j).Low<=AA v j/\AA v j<=(AA (A6 t k) j).z5
def VR(t:AC)(g:d5)(V:List Fp):Prop:=V.length=g.d3.length/\∀i:Int,0<=i->i<g.d3.length->eK t (AA g.d3 i) (AA V i)
variable{t:AC}{x:AF}
theorem g8{V:List Fp}(h:VR t x.d5 V){p:(Int×Int)×Int}(o:MS t x p=false):VR t x.d5 (CR V p):=by
 unfold CR;split
 .rename_i k;refine⟨by rw[List.length_modify];exact h.1,fun i q u=>?_⟩;have hi:=h.2 i q u;by_cases e:i=p.1.1
  .have a:AA (V.modify p.1.1.toNat fun r=>r.set p.1.2.toNat p.2) i=(AA V i).set p.1.2.toNat p.2:=by
    have:=h.1;subst e;simp[AA,List.getElem?_modify,List.getElem?_eq_getElem (show p.1.1.toNat<V.length by omega)]
   rw [a];refine⟨by rw[List.length_set];exact hi.1,fun j f g=>?_⟩;rw[List.length_set]at g;by_cases b:j=p.1.2
   .rw[show AA ((AA V i).set p.1.2.toNat p.2) j=p.2 by rw[b];exact nk p.2 k.2 (by omega),b,e];simp[MS]at o;omega
   .rw[show AA ((AA V i).set p.1.2.toNat p.2) j=AA (AA V i) j from nm p.2 k.2 f b];exact hi.2 j f g
  .have a:AA (V.modify p.1.1.toNat fun r=>r.set p.1.2.toNat p.2) i=AA V i:=by
    simp [AA,List.getD_eq_getElem?_getD,List.getElem?_modify,show¬p.1.1.toNat=i.toNat by omega]
   rw [a];exact hi
 .exact h
theorem Xr:∀(L:BX){V:List Fp},VR t x.d5 V->L.any (MS t x)=false->VR t x.d5 (L.foldl CR V)
 |[],_,h,_=>h|p::L,V,h,a=>by
  rw [List.any_cons,Bool.or_eq_false_iff]at a;exact Xr L (g8 h a.1) a.2
variable{r:eg}{h:AF}
theorem HT.ec{m:AL}(s:HT t r h m):(∀n∈(gS t r h m).d5.d3,(AA t.d3 n).wa=false)/\∀v n,(n,v)∈(gS t r h m).d5.d3.zip (gS t r h m).ed->eK t n v:=by
 have A:=C4 s.hv;have el:(gS t r h m).d5.d3=(dS r h m).d3.map (AA h.d5.d3)++(ES r).map (AA r.ee.d5.d3):=rfl;have ev:(gS t r h m).ed=(dS r h m).d3.map (AA h.ed)++(ES r).map (fun k=>Td t (AA r.ee.d5.d3 k)):=rfl;have old:∀x∈(dS r h m).d3,(AA t.d3 (AA h.d5.d3 x)).wa=false/\eK t (AA h.d5.d3 x) (AA h.ed x):=fun x a=>by
  have a:=s.rem.ec.1 x a;have b:=(SS s.he).1 x a.1 a.2;unfold G5 at b;split at b
  .cases b
  split at b
  .cases b
  split at b
  .cases b
  split at b
  .cases b
  rename_i a1 B C D;refine⟨by simpa using B,Classical.not_not.1 C,fun j u w=>?_⟩;have:=BV.1 (by simpa using D) j u (by omega);simp[Qk]at this;omega
 have new:∀k∈ES r,eK t (AA r.ee.d5.d3 k) (Td t (AA r.ee.d5.d3 k)):=fun k z=>by
  have o:0<=k/\k<r.ee.d5.d3.length:=Fm z;have q:=(Gx s.ro.right s.ro.Aa7).1 _ (AI o.1 o.2);refine⟨by simp[Td],fun j u w=>?_⟩;simp only[Td,ca]at w|-;have:=XP s.hf A q.1 q.2 _ (AI u w);rw[show AA ((A6 t (AA r.ee.d5.d3 k)).map fun x=>x.Low) j=(AA (A6 t (AA r.ee.d5.d3 k)) j).Low by grind[AA,List.getElem?_eq_getElem]];omega
 refine ⟨fun n g=>?_,fun v n f=>?_⟩
 .rw[el]at g;rcases List.mem_append.1 g with g|g
  .obtain⟨x,a,rfl⟩:=List.mem_map.1 g;exact(old x a).1
  .obtain⟨k,z,rfl⟩:=List.mem_map.1 g;exact(bK s.re).1 k z
 .rw[el,ev,List.zip_append (by simp)]at f;rcases List.mem_append.1 f with f|f
  .rw[List.zip_map',List.mem_map]at f;obtain⟨x,a,e⟩:=f;cases e;exact(old x a).2
  .rw[List.zip_map',List.mem_map]at f;obtain⟨x,a,e⟩:=f;cases e;exact new x a
end Go.Sf.Sc
namespace Go.Sf.Sc
open Go Go.Sf
variable{i:Int}
theorem sd{α β:Type}[Inhabited α][Inhabited β]{a:List α}{b:List β}(e:0<=i)(f:i<a.length)(g:i<b.length):(AA a i,AA b i)∈a.zip b:=by
 refine List.mem_of_getElem? (i:=i.toNat) ?_;rw[List.getElem?_zip_eq_some]
 grind [AA,List.getElem?_eq_getElem]
variable{t:AC}{r:eg}{h:AF}
theorem bi{m:AL}(s:PJ t r h m):FE t (PK t r h m)=(-1,0):=by
 have f:=s.f;have hv:=f.hv;have o:=C4 hv;have put:=f.put;have v:=f.ei;obtain⟨B,C⟩:=f.ec;have G:=o.ec;have H:=o.ei;have g:VR t (gS t r h m).d5 (gS t r h m).ed:=⟨put.AbK,fun i k b=>C _ _ (sd k b (by rw[put.AbK];exact b))⟩;have a:=Xr (x:=gS t r h m) _ g (ah s.put).2;have q:∀e∈(gS t r h m).d5.d4,0<=e.jj/\e.jj<t.d4.length:=fun e he=>by
  have:=(v e he).2;unfold Mx at this;simp only[o4,t2]at this;exact this.1.2
 have go:DD (gS t r h m).d5:=⟨s.few.1,s.few.2,fun n z=>by have:=put.kind n z;omega,fun e he=>⟨by have:=q e he;omega,(v e he).1⟩⟩;have A:(PK t r h m).d5=(gS t r h m).d5:=rfl;have ev:(PK t r h m).ed=(CD r (cS r h m) m.fa).foldl CR (gS t r h m).ed:=rfl;unfold FE;rw[ae (by simp[hv]),A,ev,ae (by simp[SN go]),ae (by simpa using a.1),BW.2]
 .dsimp only;rw[BW.2]
  .rfl
  intro i k b;have u:=AI k b;have w:KZ t (gS t r h m).d5 i=0:=by
   unfold KZ Ix;rw[ae (by have:=q _ u;omega),(v _ u).2];rfl
  rw [w];rfl
 .intro i k b;have u:=AI k b;obtain⟨D,E⟩:=a.2 i k b;have w:G5 t (AA (gS t r h m).d5.d3 i) (AA ((CD r (cS r h m) m.fa).foldl CR (gS t r h m).ed) i)=0:=by
   unfold G5;rw[ae (by have:=put.kind _ u;omega),ae (by simp[B _ u]),ae (by simpa using D),ae];rw[D4];rintro⟨j,F,I,e⟩;have:=E j F (by omega);simp[Qk]at e;omega
  rw [w];rfl
end Go.Sf.Sc
namespace Go.Sf.Sc
open Go Go.Sf
variable{α:Type}{i:Int}
theorem oN[Inhabited α]{a r:List α}{x:α}(b:0<=i)(h:(a.length:Int)=i):AA (a++x::r) i=x:=by
 obtain ⟨n,rfl⟩:=Int.eq_ofNat_of_zero_le b;obtain rfl:a.length=n:=by omega
 simp [AA]
theorem kv{a r:List α}{x y:α}(b:0<=i)(h:(a.length:Int)=i):BN (a++x::r) i y=a++y::r:=by
 obtain ⟨n,rfl⟩:=Int.eq_ofNat_of_zero_le b;obtain rfl:a.length=n:=by omega
 simp [BN]
theorem Wl(l:Fp)(v:Int):slices_Contains_int l v=some (hasB l v):=LS l v
variable{n:Nat}
theorem WH(h:n<=1000):JU n=some (Au n):=by
 unfold JU;rw[LT (fun _=>true) id]
 .rw[bs,List.map_id,List.filter_eq_self.2 fun _ _=>rfl]
 .intro i s a b e;rw[AY (by simp;unfold AZ;omega),bs,a6 rfl];rfl
variable{l:Fp}
theorem aR(o:l.length<=1000)(j:∀x∈l,0<=x):MB l.length (Au l.length) l=some (l,true):=by
 unfold MB DL;rw[a6 ⟨rfl,by omega,by omega⟩,bs,A5,Hk (a:=0) (b:=(l.length:Int)) (fun i=>l.take i.toNat++List.replicate (l.length-i.toNat) (-1)) (fun _=>none) (by omega) (by simp),BW.2 (fun _ _ _=>rfl)]
 .simp[jZ,Bt]
 intro i e f _;have q:=j _ (AI e f);have g:((l.take i.toNat).length:Int)=i:=by rw[bk];omega
 have k:List.replicate (l.length-i.toNat) (-1:Int)=-1::List.replicate (l.length-(i+1).toNat) (-1):=by
  rw [show l.length-i.toNat=(l.length-(i+1).toNat)+1 by omega];rfl
 rw [AD e (by rw[A5];exact f),mq _ e f,bs,AD e f,bs,ae (by simp;omega),ae (by simp;omega),k,AD e (by simp;omega),bs,oN e g,ae (by decide),bs,ae (by decide),bs,bs,kv e g,BS e f];simp[dj]
def OY(g:d5)(a b:Int):Nat:=g.d4.countP fun e=>decide (e.ib=a)&&decide (e.To=b)
theorem Se{g:d5}(h:g.d4.length<=1000)(a b:Int):Ia g a b=some (OY g a b:Int):=by
 unfold Ia OY;have k:∀l:List Bk,(l.countP fun e=>decide (e.ib=a)&&decide (e.To=b))<=l.length:=fun l=>List.countP_le_length;rw[Bo (fun i=>(((g.d4.take i.toNat).countP fun e=>decide (e.ib=a)&&decide (e.To=b)):Int)) (by omega) (by simp)]
 .rw[bs,Int.toNat_natCast,List.take_length]
 intro i f j;have:=k (g.d4.take i.toNat);rw[bk]at this;rw[AD f j,bs,BS f j,List.countP_append];by_cases e:((decide ((AA g.d4 i).ib=a))&&(decide ((AA g.d4 i).To=b)))=true
 .rw[a6 e,Ay (by omega) (by omega)];simp[List.countP_cons,e]
 .rw[ae e];simp[List.countP_cons,e]
def iB(x y:AF)(mn:Fp)(l j:Int):Bool:=
 decide (OY x.d5 j l=OY y.d5 (AA mn j) (AA mn l))&&decide (OY x.d5 l j=OY y.d5 (AA mn l) (AA mn j))
def dF(x y:AF)(mn:Fp)(l:Int):Bool:=!ll (fun j=>!iB x y mn l j) 0 (l+1)
theorem Hj{i j:Int}(a:0<=j)(h:j<i):AA (l.take i.toNat) j=AA l j:=by
 unfold AA;rw[List.getD_eq_getElem?_getD,List.getD_eq_getElem?_getD,List.getElem?_take,a6 (by omega)]
variable{x y:AF}
theorem iT(b:x.d5.d4.length<=1000)(e:y.d5.d4.length<=1000){mn o es me:Fp}(v:mn.length<=1000){l:Int}(f:0<=l)(l1:l<mn.length):
  Fw ⟨x,y,o,es,⟨mn.take (l+1).toNat,me⟩⟩=some (dF x y mn l):=by
 unfold Fw;have u:((mn.take (l+1).toNat).length:Int)=l+1:=by rw[bk];omega
 dsimp only;rw[u,show l+1-1=l by omega,Ay (by omega) (by omega),BQ (fun j=>!iB x y mn l j) false]
 .unfold dF;cases ll (fun j=>!iB x y mn l j) 0 (l+1)<;>rfl
 intro j g q;rw[AD g (by omega),bs,Hj g q,Se b,bs,AD f (by omega),bs,Hj f (by omega),Se e,bs,Se b,bs,bs,Se e,bs];unfold iB;by_cases a:OY x.d5 j l=OY y.d5 (AA mn j) (AA mn l)
 .rw[ae (by simp[a]),bs];by_cases k:OY x.d5 l j=OY y.d5 (AA mn l) (AA mn j)
  .simp[a,k]
  .rw[a6 (by simp only[Bool.not_eq_true',decide_eq_false_iff_not];omega)];simp[a,k]
 .rw[a6 (by simp only[Bool.not_eq_true',decide_eq_false_iff_not];omega),bs,a6 rfl];simp[a]
def PM(x y:AF)(m:d6)(i:Int):Bool:=
 decide (AA y.d5.d4 (AA m.d4 i)=⟨(AA x.d5.d4 i).jj,AA m.d3 (AA x.d5.d4 i).ib,AA m.d3 (AA x.d5.d4 i).To⟩)&&!hasB (m.d4.take i.toNat) (AA m.d4 i)
def PS(x y:AF)(m:d6)(i:Int):Bool:=
 decide (AA y.d5.d3 (AA m.d3 i)=AA x.d5.d3 i)&&!hasB (m.d3.take i.toNat) (AA m.d3 i)&&decide (AA x.ed i=AA y.ed (AA m.d3 i))&&dF x y m.d3 i
structure Qy(x y:AF)(m:d6):Prop where
 nl:m.d3.length=x.d5.d3.length
 el:m.d4.length=x.d5.d4.length
 xn:x.d5.d3.length<=1000
 xe:x.d5.d4.length<=1000
 yn:y.d5.d3.length<=1000
 ye:y.d5.d4.length<=1000
 xv:x.ed.length=x.d5.d3.length
 yv:y.ed.length=y.d5.d3.length
 xends:∀e∈x.d5.d4,(0<=e.ib/\e.ib<x.d5.d3.length)/\0<=e.To/\e.To<x.d5.d3.length
 nin:∀k∈m.d3,0<=k/\k<y.d5.d3.length
 ein:∀k∈m.d4,0<=k/\k<y.d5.d4.length
abbrev GU(x y:AF)(m:d6)(n e:Int):BZ:=⟨x,y,m.d3,m.d4,⟨m.d3.take n.toNat,m.d4.take e.toNat⟩⟩
variable{m:d6}
theorem aQ(h:Qy x y m):∀(k:Nat)(i:Int),0<=i->i+k=x.d5.d4.length->∃b st,(∀n,k<n->B7 n (GU x y m x.d5.d3.length i)=some (b,st))/\(b=true↔∀j:Int,i<=j->j<x.d5.d4.length->PM x y m j=true)/\(b=true->st.m=m)/\(b=false->st=GU x y m x.d5.d3.length i)
 |0,i,g,N=>by
  have:=h.el;refine⟨true,GU x y m x.d5.d3.length i,fun n w=>?_,⟨fun _ j C F=>by omega,fun _=>rfl⟩,fun _=>?_,fun h=>by cases h⟩
  .obtain⟨n,rfl⟩:∃q,n=q+1:=⟨n-1,by omega⟩;rw[B7,a6 (by simp[GU,bk];omega)]
  .have C:=h.nl;show d6.mk _ _=m;rw[List.take_of_length_le (by omega),List.take_of_length_le (by omega)]
 |k+1,i,g,N=>by
  have C:=h.nl;have F:=h.el;have O:=h.xe;have P:=h.ye;obtain⟨b,st,I,J,K,L⟩:=aQ h k (i+1) (by omega) (by omega);have hi:=h.ein _ (AI g (l:=m.d4) (by omega));have D:=h.xends _ (AI (l:=x.d5.d4) g (by omega));have G:((m.d4.take i.toNat).length:Int)=i:=by rw[bk];omega
  have key:∀n,k+1<n->B7 n (GU x y m x.d5.d3.length i)=some (if(PM x y m i&&b)=true then(true,st)else(false,GU x y m x.d5.d3.length i)):=fun n w=>by
   obtain ⟨n,rfl⟩:∃q,n=q+1:=⟨n-1,by omega⟩;rw[B7];dsimp only;have nt:m.d3.take (x.d5.d3.length:Int).toNat=m.d3:=List.take_of_length_le (by omega);rw[G,nt,ae (by simp;omega),AD g (by omega),bs,AD D.1.1 (by omega),bs,AD D.2.1 (by omega),bs,
    Hk (a:=0) (b:=(y.d5.d4.length:Int)) (fun _=>GU x y m x.d5.d3.length i) (fun j=>if j=AA m.d4 i/\(PM x y m i&&b)=true then some (true,st)else none) (by omega) (by rw[GU,nt])]
   .by_cases e:(PM x y m i&&b)=true
    .have hf:fst (fun j=>if j=AA m.d4 i/\(PM x y m i&&b)=true then some (true,st)else none) 0 (y.d5.d4.length:Int)=some (true,st):=by
      cases hf:fst (fun j=>if j=AA m.d4 i/\(PM x y m i&&b)=true then some (true,st)else none) 0 (y.d5.d4.length:Int)with
      |none=>
       rw [BW]at hf;have:=hf _ hi.1 hi.2;simp[e]at this
      |some v=>
       obtain ⟨j,z,o,f,_⟩:=Cu hf;split at f
       .rw[<-f]
       .cases f
     rw [hf,a6 e];rfl
    .rw[ae e,BW.2 (fun j z o=>ae (fun k=>e k.2))];rfl
   .intro j z o _;dsimp only[GU];rw[nt,AD z o,bs,AD g (by omega),bs,a6 (by simpa using hi.1),bs,bs];by_cases B:j=AA m.d4 i
    .subst B;by_cases u:AA y.d5.d4 (AA m.d4 i)=⟨(AA x.d5.d4 i).jj,AA m.d3 (AA x.d5.d4 i).ib,AA m.d3 (AA x.d5.d4 i).To⟩
     .rw[ae (by simp[u]),Wl,bs,bs];by_cases f:hasB (m.d4.take i.toNat) (AA m.d4 i)=true
      .rw[a6 f,ae (by simp[PM,f])];rfl
      .have H:PM x y m i=true:=by simp[PM,u,f]
       rw [ae f,AY (by simp;unfold AZ;omega),bs,<-BS g (by omega)];have E:=I n (by omega);rw[GU,nt]at E;rw[E,bs,H];cases b with
       |true=>rw[a6 rfl,a6 ⟨rfl,rfl⟩];rfl|false=>
        obtain rfl:=L rfl;rw[ae (by simp),GU,JB (by omega) (by rw[bk];omega),bs,nt,List.take_take];rw[show min i.toNat (i+1).toNat=i.toNat by omega,ae (by simp)];rfl
     .rw[a6 (by simp[u]),bs,a6 rfl,ae (by simp[PM,u])];rfl
    .rw[a6 (by simp;exact .inl fun k=>B k.symm),bs,a6 rfl,ae (fun k=>B k.1)];rfl
  refine ⟨PM x y m i&&b,if(PM x y m i&&b)=true then st else GU x y m x.d5.d3.length i,fun n w=>?_,?_,fun e=>?_,fun e=>?_⟩
  .rw[key n w];by_cases e:(PM x y m i&&b)=true
   .rw[a6 e,a6 e,e]
   .rw[ae e,ae e,Bool.eq_false_iff.2 e]
  .rw[o4,J];constructor
   .rintro⟨a1,M⟩ j o A;by_cases e:j=i
    .exact e▸a1
    .exact M j (by omega) A
   .exact fun a=>⟨a i (by omega) (by omega),fun j o A=>a j (by omega) A⟩
  .rw[a6 e];rw[o4]at e;exact K e.2
  .rw[ae (by rw[e];decide)]
end Go.Sf.Sc
namespace Go.Sf.Sc
open Go Go.Sf
variable{x y:AF}{m:d6}
theorem oZ(h:Qy x y m):∃b st,JH (GU x y m x.d5.d3.length 0)=some (b,st)/\(b=true↔∀j:Int,0<=j->j<x.d5.d4.length->PM x y m j=true)/\(b=true->st.m=m)/\(b=false->st=GU x y m x.d5.d3.length 0):=by
 obtain ⟨b,st,a,e⟩:=aQ h x.d5.d4.length 0 (by omega) (by omega);exact⟨b,st,Dd (x.d5.d4.length+1) fun n f=>a n (by omega),e⟩
def fD(x y:AF)(m:d6)(i:Int):Prop:=(∀j:Int,i<=j->j<x.d5.d3.length->PS x y m j=true)/\∀j:Int,0<=j->j<x.d5.d4.length->PM x y m j=true
theorem aV(h:Qy x y m):∀(k:Nat)(i:Int),0<=i->i+k=x.d5.d3.length->∃b st,(∀n,k<n->B8 n (GU x y m i 0)=some (b,st))/\(b=true↔fD x y m i)/\(b=true->st.m=m)/\(b=false->st=GU x y m i 0)
 |0,i,g,R=>by
  obtain ⟨b,st,e,E,F,G⟩:=oZ h;obtain rfl:i=x.d5.d3.length:=by omega
  refine ⟨b,st,fun n A=>?_,?_,F,G⟩
  .obtain⟨n,rfl⟩:∃q,n=q+1:=⟨n-1,by omega⟩;have H:=h.nl;rw[B8,a6 (by simp[GU,bk];omega),e,bs]
  .rw[E];exact⟨fun a=>⟨fun j H J=>by omega,a⟩,fun a=>a.2⟩
 |k+1,i,g,R=>by
  have H:=h.nl;have J:=h.el;have K:=h.xe;have L:=h.ye;have S:=h.xn;have T:=h.yn;have U:=h.xv;have V:=h.yv;obtain⟨b,st,E,F,G,O⟩:=aV h k (i+1) (by omega) (by omega);have hi:=h.nin _ (AI g (l:=m.d3) (by omega));have M:((m.d3.take i.toNat).length:Int)=i:=by rw[bk];omega
  have key:∀n,k+1<n->B8 n (GU x y m i 0)=some (if(PS x y m i&&b)=true then(true,st)else(false,GU x y m i 0)):=fun n A=>by
   obtain ⟨n,rfl⟩:∃q,n=q+1:=⟨n-1,by omega⟩;rw[B8];dsimp only;rw[M,ae (by simp;omega),Hk (a:=0) (b:=(y.d5.d3.length:Int)) (fun _=>GU x y m i 0) (fun j=>if j=AA m.d3 i/\(PS x y m i&&b)=true then some (true,st)else none) (by omega) rfl]
   .by_cases e:(PS x y m i&&b)=true
    .have hf:fst (fun j=>if j=AA m.d3 i/\(PS x y m i&&b)=true then some (true,st)else none) 0 (y.d5.d3.length:Int)=some (true,st):=by
      cases hf:fst (fun j=>if j=AA m.d3 i/\(PS x y m i&&b)=true then some (true,st)else none) 0 (y.d5.d3.length:Int)with
      |none=>
       rw [BW]at hf;have:=hf _ hi.1 hi.2;simp[e]at this
      |some v=>
       obtain ⟨j,B,o,f,_⟩:=Cu hf;split at f
       .rw[<-f]
       .cases f
     rw [hf,a6 e];rfl
    .rw[ae e,BW.2 (fun j B o=>ae (fun k=>e k.2))];rfl
   .intro j B o _;dsimp only[GU];rw[AD B o,bs,AD g (by omega),bs,a6 (by simpa using hi.1),bs,bs];by_cases D:j=AA m.d3 i
    .subst D;rw[ae (by simp),AD g (by omega),bs,bs];by_cases u:AA y.d5.d3 (AA m.d3 i)=AA x.d5.d3 i
     .rw[ae (by simp[u]),Wl,bs,bs];by_cases f:hasB (m.d3.take i.toNat) (AA m.d3 i)=true
      .rw[a6 f,bs,a6 rfl,ae (by simp[PS,f])];rfl
      .rw[ae f,AD g (by omega),bs,AD hi.1 (by omega),bs,J8,bs,bs];by_cases w:AA x.ed i=AA y.ed (AA m.d3 i)
       .rw[ae (by simp[w]),AY (by simp;unfold AZ;omega),bs,<-BS g (by omega),iT K L (by omega) g (by omega),bs];by_cases z:dF x y m.d3 i=true
        .have N:PS x y m i=true:=by simp[PS,u,f,w,z]
         rw [a6 z];have I:=E n (by omega);rw[GU]at I;rw[I,bs,N];cases b with
         |true=>rw[a6 rfl,a6 ⟨rfl,rfl⟩];rfl|false=>
          obtain rfl:=O rfl;rw[ae (by simp),GU,JB (by omega) (by rw[bk];omega),bs,List.take_take,show min i.toNat (i+1).toNat=i.toNat by omega,ae (by simp)];rfl
        .rw[ae z,JB (by omega) (by rw[bk];omega),bs,List.take_take,show min i.toNat (i+1).toNat=i.toNat by omega,ae (by simp[PS,z])];rfl
       .rw[a6 (by simp[w]),ae (by simp[PS,w])];rfl
     .rw[a6 (by simp;exact fun k=>u k),bs,a6 rfl,bs,a6 rfl,ae (by simp[PS,u])];rfl
    .rw[a6 (by simp;exact fun k=>D k.symm),bs,a6 rfl,bs,a6 rfl,bs,a6 rfl,ae (fun k=>D k.1)];rfl
  refine ⟨PS x y m i&&b,if(PS x y m i&&b)=true then st else GU x y m i 0,fun n A=>?_,?_,fun e=>?_,fun e=>?_⟩
  .rw[key n A];by_cases e:(PS x y m i&&b)=true
   .rw[a6 e,a6 e,e]
   .rw[ae e,ae e,Bool.eq_false_iff.2 e]
  .rw[o4,F];constructor
   .rintro⟨a1,P,Q⟩;refine⟨fun j o C=>?_,Q⟩;by_cases e:j=i
    .exact e▸a1
    .exact P j (by omega) C
   .exact fun a=>⟨a.1 i (by omega) (by omega),fun j o C=>a.1 j (by omega) C,a.2⟩
  .rw[a6 e];rw[o4]at e;exact G e.2
  .rw[ae (by rw[e];decide)]
variable{l:Fp}
theorem qu(z:l.length<=100000)(h:0<l.length):∃v,slices_Min_int l=some v/\(v<0↔∃x∈l,x<0):=by
 unfold slices_Min_int;rw[ae (by simp;omega),AD (by omega) (by omega),bs];obtain⟨s,e,j,u⟩:=ND (f:=fun(q:Int)(w:Int)=>
  (idx l q).bind fun o=>
  some (min w o)) (fun i s=>s∈l.take i.toNat/\∀x∈l.take i.toNat,s<=x) (a:=1) (b:=(l.length:Int)) (s:=AA l 0) (by omega) (by
   have:=BS (l:=l) (i:=0) (by omega) (by omega);rw[show((0:Int)+1).toNat=1 by omega]at this;rw[show(1:Int).toNat=1 by omega,this];simp) (fun i s q j hi=>by
   rw [AD (by omega) j,bs];refine⟨_,rfl,?_⟩;rw[BS (by omega) j];refine⟨?_,fun x g=>?_⟩
   .rcases Int.le_total s (AA l i)with h|h
    .rw[Int.min_eq_left h];exact List.mem_append_left _ hi.1
    .rw[Int.min_eq_right h];exact List.mem_append_right _ (List.mem_singleton.2 rfl)
   .rcases List.mem_append.1 g with g|g
    .have:=hi.2 x g;omega
    .rw[List.mem_singleton.1 g];omega)
 rw [Int.toNat_natCast,List.take_length]at j u;rw[e,bs];exact⟨s,rfl,fun k=>⟨s,j,k⟩,fun⟨x,g,k⟩=>by have:=u x g;omega⟩
theorem X5{a:List Fp}(h:a.flatten.length<=100000):EU a=some a.flatten:=by
 have cut:∀k:Nat,(a.take k).flatten.length<=a.flatten.length:=fun k=>by
  conv=>rhs;rw[<-List.take_append_drop k a,List.flatten_append,ba]
  omega
 have f:∀i:Int,0<=i->i<a.length->(a.take (i+1).toNat).flatten=(a.take i.toNat).flatten++AA a i:=fun i b e=>by
  rw [BS b e,List.flatten_append];simp
 unfold EU Ip;rw[Bo (fun i=>((a.take i.toNat).flatten.length:Int)) (by omega) (by simp),bs,Int.toNat_natCast,List.take_length,a6 ⟨rfl,by omega,by unfold AZ;omega⟩,bs,Bo (fun i=>(a.take i.toNat).flatten) (by omega) (by simp),bs,Int.toNat_natCast,List.take_length]
 .intro i b e;have c:=cut (i+1).toNat
  rw [f i b e,ba]at c;rw[AD b e,bs,AY (by unfold AZ;omega),bs,f i b e]
 .intro i b e;have c:=cut (i+1).toNat
  rw [f i b e,ba]at c;rw[AD b e,bs,Ay (by omega) (by omega),ae (by simp;omega),f i b e,ba];simp
theorem rG(B:Ez x)(C:Ez y)(xv:x.ed.length=x.d5.d3.length)(yv:y.ed.length=y.d5.d3.length)(ends:∀e∈x.d5.d4,(0<=e.ib/\e.ib<x.d5.d3.length)/\0<=e.To/\e.To<x.d5.d3.length)(m:d6):
  ∃b,Eu x y m=some b/\(b=true↔Qy x y m/\x.d5.d3.length=y.d5.d3.length/\x.d5.d4.length=y.d5.d4.length/\fD x y m 0):=by
 have J:=B.ec;have K:=B.ei;have L:=C.ec;have M:=C.ei;unfold Eu;by_cases D:m.d3.length=x.d5.d3.length
 case neg=>exact⟨false,by rw[a6 (by simp;omega)],by simp;exact fun a=>absurd a.nl D⟩
 by_cases E:m.d4.length=x.d5.d4.length
 case neg=>exact⟨false,by rw[a6 (by simp;omega)],by simp;exact fun a=>absurd a.el E⟩
 rw [ae (by simp;omega),X5 (by simp;omega),bs,AY (by simp;unfold AZ;omega),bs];obtain⟨v,ev,hv⟩:=qu (l:=[m.d3,m.d4].flatten++[0]) (by simp;omega) (by simp;omega);rw[ev,bs];by_cases o:v<0
 .refine⟨false,by rw[a6 (by simpa using o)],by simp;rintro a;obtain⟨z,g,w⟩:=hv.1 o;simp at g;rcases g with g|g|g;(have:=a.nin z g;omega);(have:=a.ein z g;omega);omega⟩
 have pos:∀z,z∈m.d3\/z∈m.d4->0<=z:=fun z g=>by
  rcases Int.lt_or_le z 0 with k|k
  .exact absurd (hv.2 ⟨z,by simp;rcases g with g|g;exact .inl g;exact .inr (.inl g),k⟩) o
  .exact k
 rw [ae (by simpa using o),Qd (f:=fun A=>Ib A y) (p:=fun k=>decide ((y.d5.d3.length:Int)<=k)) (fun _ _=>rfl),bs];by_cases q:m.d3.any (fun k=>decide ((y.d5.d3.length:Int)<=k))=true
 .rw[a6 q,bs,a6 rfl];refine⟨false,rfl,by simp;rintro a;obtain⟨z,g,w⟩:=List.any_eq_true.1 q;have:=a.nin z g;simp at w;omega⟩
 rw [ae q,Qd (f:=fun A=>Ic A y) (p:=fun k=>decide ((y.d5.d4.length:Int)<=k)) (fun _ _=>rfl),bs,bs];by_cases u:m.d4.any (fun k=>decide ((y.d5.d4.length:Int)<=k))=true
 .rw[a6 u];refine⟨false,rfl,by simp;rintro a;obtain⟨z,g,w⟩:=List.any_eq_true.1 u;have:=a.ein z g;simp at w;omega⟩
 have inn:Qy x y m:=⟨D,E,J,K,L,M,xv,yv,ends,fun k j=>⟨pos k (.inl j),by
   rcases Int.lt_or_le k y.d5.d3.length with a|a
   .exact a
   .exact absurd (List.any_eq_true.2 ⟨k,j,by simpa using a⟩) q⟩,fun k j=>⟨pos k (.inr j),by
   rcases Int.lt_or_le k y.d5.d4.length with a|a
   .exact a
   .exact absurd (List.any_eq_true.2 ⟨k,j,by simpa using a⟩) u⟩⟩
 rw [ae u,WH (by omega),bs,WH (by omega),bs];unfold HM;by_cases F:x.d5.d3.length=y.d5.d3.length
 case neg=>rw[a6 (by simp;omega)];exact⟨false,rfl,by simp;exact fun _ a=>absurd a F⟩
 by_cases G:x.d5.d4.length=y.d5.d4.length
 case neg=>rw[a6 (by simp;omega)];exact⟨false,rfl,by simp;exact fun _ _ a=>absurd a G⟩
 rw [ae (by simp;omega),show(x.d5.d3.length:Int)=m.d3.length by omega,aR (by omega) (fun z g=>pos z (.inl g)),bs,show(x.d5.d4.length:Int)=m.d4.length by omega,aR (by omega) (fun z g=>pos z (.inr g)),bs,ae (by simp)];obtain⟨b,st,N,I,O,Q⟩:=aV inn x.d5.d3.length 0 (by omega) (by omega);have H:JI (GU x y m 0 0)=some (b,st):=Dd (x.d5.d3.length+1) fun n P=>N n (by omega);simp only[GU,Int.toNat_zero,List.take_zero]at H;dsimp only;rw[H,bs,bs];dsimp only;cases b with
 |false=>exact⟨false,rfl,by simp;exact fun _ _ _ a=>absurd (I.2 a) (by decide)⟩|true=>
  rw [a6 rfl,O rfl,J8,bs,bs,a6 (by simp),J8,bs,bs];refine⟨_,rfl,fun _=>⟨inn,F,G,I.1 rfl⟩,fun _=>by simp⟩
end Go.Sf.Sc
namespace Go.Sf.Sc
open Go Go.Sf
theorem bY(n:Nat):(Au n).Nodup:=by
 unfold Au;exact List.Pairwise.map _ (fun a b h e=>h (Int.ofNat.inj e)) List.nodup_range
variable{l:Fp}{n:Nat}
theorem eA(h:∀i:Int,0<=i->i<n->i∈l):n<=l.length:=by
 have:=List.Nodup.length_le_of_subset (l₁:=Au n) (l₂:=l) (bY n) (fun x a=>h x (DT.1 a).1 (DT.1 a).2)
 rwa [A5]at this
variable{i:Int}
theorem ZX(b:l.Nodup)(g:l.length=n)(h:∀x∈l,0<=x/\x<n)(e:0<=i)(f:i<n):i∈l:=by
 by_cases hi:i∈l
 .exact hi
 .have:=Qh (l:=i::l) (n:=n) (List.nodup_cons.2 ⟨hi,b⟩) (fun x a=>by
   rcases List.mem_cons.1 a with rfl|a
   .exact⟨e,f⟩
   .exact h x a)
  simp at this;omega
theorem Oo:l.Nodup↔∀i:Int,0<=i->i<l.length->hasB (l.take i.toNat) (AA l i)=false:=by
 rw [<-J3];unfold Hu;rw[Bool.not_eq_true',BV];refine⟨fun h i b f=>?_,fun h i b f=>?_⟩
 .have:=h i b f;rw[BV]at this;rw[<-Bool.not_eq_true,B4];intro k;obtain⟨j,a,g,e⟩:=Bb k;rw[bk]at g;have o:=this j a (by omega);rw[Hj a (by omega)]at e;simp[e]at o
 .rw[BV];intro j a g;have:=h i b f;rw[<-Bool.not_eq_true,B4]at this;simp only[decide_eq_false_iff_not];intro e;refine this ?_;rw[e,<-Hj a g];exact AI a (by rw[bk];omega)
variable{mn me:Fp}
theorem XS{x y:d5}(M:mn.length=x.d3.length)(z:mn.Nodup)(D:me.length=x.d4.length)(N:x.d4.length=y.d4.length)(A:me.Nodup)(ein:∀k∈me,0<=k/\k<y.d4.length)
  (ends:∀e∈x.d4,(0<=e.ib/\e.ib<x.d3.length)/\0<=e.To/\e.To<x.d3.length)
  (edge:∀i:Int,0<=i->i<x.d4.length->AA y.d4 (AA me i)=⟨(AA x.d4 i).jj,AA mn (AA x.d4 i).ib,AA mn (AA x.d4 i).To⟩)
  {a b:Int}(a0:0<=a)(a1:a<x.d3.length)(E:0<=b)(F:b<x.d3.length):OY x a b=OY y (AA mn a) (AA mn b):=by
 have G:me.Perm (Au y.d4.length):=(List.perm_ext_iff_of_nodup A (bY _)).2 fun k=>⟨fun g=>DT.2 (ein k g),fun g=>ZX A (by omega) ein (DT.1 g).1 (DT.1 g).2⟩;have C:=G.map (AA y.d4);rw[Pe]at C;have H:x.d4.map (fun e=>(⟨e.jj,AA mn e.ib,AA mn e.To⟩:Bk))=me.map (AA y.d4):=by
  rw [V5 x.d4,V5 me,D];refine Ca fun j f B=>?_;exact(edge j f B).symm
 unfold OY;rw[<-C.countP_eq,<-H,List.countP_map];refine List.countP_congr fun e he=>?_;obtain⟨⟨I,J⟩,K,L⟩:=ends e he;have inj:∀{i j:Int},0<=i->i<x.d3.length->0<=j->j<x.d3.length->AA mn i=AA mn j->i=j:=fun{i j}o O f B e=>by
  by_cases q:i<j
  .have:=Oo.1 z j f (by omega);rw[<-Bool.not_eq_true,B4]at this;refine absurd ?_ this;rw[<-e,<-Hj o q];exact AI o (by rw[bk];omega)
  by_cases w:j<i
  .have:=Oo.1 z i o (by omega);rw[<-Bool.not_eq_true,B4]at this;refine absurd ?_ this;rw[e,<-Hj f w];exact AI f (by rw[bk];omega)
  omega
 simp only[Function.comp_apply,o4,t2];exact⟨fun⟨u,v⟩=>⟨by rw[u],by rw[v]⟩,fun⟨u,v⟩=>⟨inj I J a0 a1 u,inj K L E F v⟩⟩
def TQ(l:Fp)(n:Int):Bool:=!ll (fun i=>!hasB l i) 0 n
theorem iv(l:Fp)(n:Nat):Ja l n=some (TQ l n):=by
 unfold Ja TQ;rw[BQ (fun i=>!hasB l i) false]
 .cases ll (fun i=>!hasB l i) 0 (n:Int)<;>rfl
 intro i f g _;rw[Bo (fun j=>hasB (l.take j.toNat) i) (by omega) (by simp[hasB]),bs,Int.toNat_natCast,List.take_length]
 .cases hasB l i<;>rfl
 intro j a b;have e:hasB (l.take (j+1).toNat) i=(hasB (l.take j.toNat) i||decide (AA l j=i)):=by
  rw [BS a b];simp[hasB,eq_comm]
 rw [e];cases hasB (l.take j.toNat) i with
 |true=>rfl|false=>
  rw [ae (by decide),AD a b,bs,bs];rfl
variable{m:d6}
theorem iC{a b:d5}(h:VV a b m):HN a b m=0:=by
 unfold HN;rw[ae (by simp[SN h.ga]),ae (by simp[SN h.gb]),ae (by simp[h.tn,h.wj]),BW.2]
 .dsimp only;rw[BW.2]
  .rfl
  intro i e f;obtain⟨j,g,k,o⟩:=h.edge i e f;unfold G9;rw[ae (by omega),ae (by simp[g]),ae (by simp[k,o])]
 .intro i e f;obtain⟨j,g⟩:=h.node i e f;unfold LZ;rw[ae (by omega),ae (by simp[g])]
variable{x y:AF}
theorem ra(A:DD x.d5)(B:DD y.d5)(xv:x.ed.length=x.d5.d3.length)(yv:y.ed.length=y.d5.d3.length)(m:d6):
  ∃b,HC x y m=some b/\(b=true↔Qy x y m/\x.d5.d3.length=y.d5.d3.length/\x.d5.d4.length=y.d5.d4.length/\fD x y m 0):=by
 have R:=A.ec;have S:=A.ei;have T:=B.ec;have U:=B.ei;have ends:∀e∈x.d5.d4,(0<=e.ib/\e.ib<x.d5.d3.length)/\0<=e.To/\e.To<x.d5.d3.length:=fun e he=>(A.fit e he).2;have g:(HN x.d5 y.d5 m=0/\m.d3.Nodup/\m.d4.Nodup/\(∀i:Int,0<=i->i<y.d5.d3.length->i∈m.d3)/\(∀i:Int,0<=i->i<y.d5.d4.length->i∈m.d4)/\∀i:Int,0<=i->i<m.d3.length->AA x.ed i=AA y.ed (AA m.d3 i))↔
   (Qy x y m/\x.d5.d3.length=y.d5.d3.length/\x.d5.d4.length=y.d5.d4.length/\fD x y m 0):=by
  constructor
  .rintro⟨v,q,o,w,z,P⟩;have u:=RJ v;have nin:∀k∈m.d3,0<=k/\k<y.d5.d3.length:=fun k C=>by
    obtain ⟨i,a,f,rfl⟩:=Bb C;exact(u.node i a f).1
   have ein:∀k∈m.d4,0<=k/\k<y.d5.d4.length:=fun k C=>by
    obtain ⟨i,a,f,rfl⟩:=Bb C;exact(u.edge i a f).1
   have l1:=Qh q nin;have l2:=Qh o ein;have V:=eA w;have W:=eA z;have D:=u.tn;have E:=u.wj;have edge:∀i:Int,0<=i->i<x.d5.d4.length->AA y.d5.d4 (AA m.d4 i)=⟨(AA x.d5.d4 i).jj,AA m.d3 (AA x.d5.d4 i).ib,AA m.d3 (AA x.d5.d4 i).To⟩:=fun i a f=>by
    obtain ⟨_,M,N,O⟩:=u.edge i a (by omega);rw[M,N,O]
   refine ⟨⟨D,E,by omega,by omega,by omega,by omega,xv,yv,ends,nin,ein⟩,by omega,by omega,fun i a f=>?_,fun i a f=>?_⟩
   .have K:dF x y m.d3 i=true:=by
     unfold dF;rw[Bool.not_eq_true',BV];intro j G Q;unfold iB;rw[<-XS D q E (by omega) o ein ends edge G (by omega) a f,<-XS D q E (by omega) o ein ends edge a f G (by omega)];simp
    unfold PS;rw[K,Oo.1 q i a (by omega),decide_eq_true (u.node i a (by omega)).2,decide_eq_true (P i a (by omega))];rfl
   .unfold PM;rw[Oo.1 o i a (by omega),decide_eq_true (edge i a f)];rfl
  .rintro⟨h,v,q,o,w⟩;have F:∀i:Int,0<=i->i<m.d3.length->AA y.d5.d3 (AA m.d3 i)=AA x.d5.d3 i/\hasB (m.d3.take i.toNat) (AA m.d3 i)=false/\AA x.ed i=AA y.ed (AA m.d3 i):=fun i a f=>by
    have:=o i a (by rw[<-h.nl];exact f);unfold PS at this;simp only[o4,Bool.not_eq_true',t2]at this;exact⟨this.1.1.1,this.1.1.2,this.1.2⟩
   have he:∀i:Int,0<=i->i<m.d4.length->AA y.d5.d4 (AA m.d4 i)=⟨(AA x.d5.d4 i).jj,AA m.d3 (AA x.d5.d4 i).ib,AA m.d3 (AA x.d5.d4 i).To⟩/\hasB (m.d4.take i.toNat) (AA m.d4 i)=false:=fun i a f=>by
    have:=w i a (by rw[<-h.el];exact f);unfold PM at this;simp only[o4,Bool.not_eq_true',t2]at this;exact this
   have H:m.d3.Nodup:=Oo.2 fun i a f=>(F i a f).2.1;have I:m.d4.Nodup:=Oo.2 fun i a f=>(he i a f).2;have l1:=h.nl;have l2:=h.el;refine⟨iC ⟨A,B,h.nl,h.el,fun i a f=>⟨h.nin _ (AI a f),(F i a f).1⟩,fun i a f=>⟨h.ein _ (AI a f),?_⟩⟩,H,I,fun i a f=>ZX H (by omega) h.nin a f,fun i a f=>ZX I (by omega) h.ein a f,fun i a f=>(F i a f).2.2⟩;rw[(he i a f).1];exact⟨rfl,rfl,rfl⟩
 have hv:∀l:Fp,TQ l y.d5.d3.length=true↔∀i:Int,0<=i->i<y.d5.d3.length->i∈l:=fun l=>by
  unfold TQ;rw[Bool.not_eq_true',BV];simp only[Bool.not_eq_false',B4]
 have J:∀l:Fp,TQ l y.d5.d4.length=true↔∀i:Int,0<=i->i<y.d5.d4.length->i∈l:=fun l=>by
  unfold TQ;rw[Bool.not_eq_true',BV];simp only[Bool.not_eq_false',B4]
 unfold HC FT KB;rw[WR,bs];by_cases v:HN x.d5 y.d5 m=0
 case neg=>
  refine ⟨false,by simp[v],?_⟩;rw[<-g];simp[v]
 rw [a6 (by simp[v]),UO,bs,bs];by_cases q:m.d3.Nodup
 case neg=>
  have:Hu m.d3=false:=by rw[<-Bool.not_eq_true,J3];exact q
  refine ⟨false,by simp[this],?_⟩;rw[<-g];simp[q]
 rw [a6 (J3.2 q),UO,bs,bs];by_cases o:m.d4.Nodup
 case neg=>
  have:Hu m.d4=false:=by rw[<-Bool.not_eq_true,J3];exact o
  refine ⟨false,by simp[this],?_⟩;rw[<-g];simp[o]
 rw [J3.2 o,bs,ae (by decide),bs,a6 (by simp[v]),iv,bs,bs];by_cases w:TQ m.d3 y.d5.d3.length=true
 case neg=>
  refine ⟨false,by rw[ae w];rfl,?_⟩;rw[<-g,<-hv];simp[w]
 rw [a6 w,iv,bs,bs,bs];by_cases z:TQ m.d4 y.d5.d4.length=true
 case neg=>
  refine ⟨false,by rw[Bool.eq_false_iff.2 z];rfl,?_⟩;rw[<-g,<-J];simp[z]
 have u:=RJ v;rw[z,bs,ae (by decide),BQ (fun i=>!decide (AA x.ed i=AA y.ed (AA m.d3 i))) false]
 .refine⟨!ll (fun i=>!decide (AA x.ed i=AA y.ed (AA m.d3 i))) 0 m.d3.length,by cases ll (fun i=>!decide (AA x.ed i=AA y.ed (AA m.d3 i))) 0 (m.d3.length:Int)<;>rfl,?_⟩;rw[<-g,Bool.not_eq_true',BV,<-hv,<-J];simp only[Bool.not_eq_false',t2];exact⟨fun k=>⟨v,q,o,w,z,k⟩,fun k=>k.2.2.2.2.2⟩
 .intro i a f _;have L:=(u.node i a f).1;have:=u.tn;rw[AD a (by omega),bs,AD a f,bs,AD L.1 (by omega),bs,QM,bs];split<;>rfl
end Go.Sf.Sc
namespace Go.Sf.Sc
open Go Go.Sf
noncomputable def MT(t:AC)(st:AP):Bool:=decide ((KY t st.eg st.gp st.kp).2=0)&&cj (KY t st.eg st.gp st.kp).1 st
variable{t:AC}{st:AP}
theorem aP(hf:Az t)(fr:Jw st.eg)(a:Dc st.eg.d7<=40):Ir t st=some (MT t st):=by
 unfold Ir MT;rw[ig hf fr a,bs];by_cases e:(KY t st.eg st.gp st.kp).2=0
 .rw[a6 (by simp[e]),oj,bs,bs];simp[e]
 .rw[ae (by simp[e]),bs];simp[e]
theorem ap(hf:Az t)(fr:Jw st.eg)(a:Dc st.eg.d7<=40)(w:K4 st.ia):Ko t st=some (MT t st):=by
 unfold Ko MT;rw[jI hf fr a,bs];by_cases e:(KY t st.eg st.gp st.kp).2=0
 .obtain⟨s,g⟩:=Uq hf fr a e;have f:=YX s;rw[a6 (by simp[e]),g,pA f (b:=st) ⟨f.b,w⟩,bs,bs];simp
 .rw[ae (by simp[e]),bs];simp[e]
theorem UA(hf:Az t)(fr:Jw st.eg)(g:Dc st.eg.d7<=40)(h:MT t st=true):K4 st.gp/\Pr st.gp st/\Ez st.ia:=by
 unfold MT at h;simp only[o4,t2]at h;obtain⟨s,e⟩:=Uq hf fr g h.1;have a:=cl.1 h.2;rw[e]at a;have f:=YX s;have tk:=s.trk;dsimp only at a;rw[a]at f tk;exact⟨f.b,tk,tk.sm⟩
variable{rules:List eg}{d:A8}
theorem gm(hf:Az t)(a:Jv rules)(h:Qz t rules d):∀n:Nat,n<=d.kl.length->(FE t (Gn t rules d.hV (d.kl.take n)).2).2=0
 |0,_=>(Rm hf h.given).2.1|n+1,f=>by
  have he:=h.AaS n (by omega) (by omega);have e:=BS (l:=d.kl) (i:=(n:Int)) (by omega) (by omega);rw[show((n:Int)+1).toNat=n+1 by omega,Int.toNat_natCast]at e;unfold S2 at he;rw[Int.toNat_natCast]at he;obtain⟨_,s,b⟩:=UD hf a he;rw[e,On,b];exact congrArg Prod.snd (bi s)
theorem cu:∀(l:List AP)(m:d6),(SI m l).d3.length=m.d3.length/\(SI m l).d4.length=m.d4.length
 |[],m=>⟨rfl,rfl⟩|s::l,m=>by
  have:=cu l (B6 m s.mo);simp only[B6,Db,ca]at this;exact this
structure Y6(t:AC)(d:A8)(x:AF×d6×Int):Prop where
 small:Ez x.1
 ok:Hr t x.1
 tn:x.2.1.d3.length=d.hV.d5.d3.length
 wj:x.2.1.d4.length=d.hV.d5.d4.length
 inn:VT x.2.1 x.1.d5
theorem gl(hf:Az t)(a:Jv rules)(e:(Nw t rules d).2.2=0):Y6 t d (Nw t rules d):=by
 have h:Qz t rules d:=WW.1 (by rw[<-n7];exact e);obtain⟨f,g⟩:=Pa hf a h d.kl.length (az _);have c3:=gm hf a h d.kl.length (az _);rw[List.take_length]at f g c3;have j:Nw t rules d=((Gn t rules d.hV d.kl).2,SI (Ua d.hV.d5) (Gn t rules d.hV d.kl).1,0):=by
  unfold Nw;rw[ae (by rw[WW.2 h];simp)]
 rw [j];have b:=cu (Gn t rules d.hV d.kl).1 (Ua d.hV.d5);exact⟨f,(QH hf c3).2,by rw[b.1];exact A5 _,by rw[b.2];exact A5 _,g⟩
variable{l by':Fp}
theorem Lc(g:l.length<=1000)(h:∀x∈l,-1<=x/\x<by'.length):Cg l by'=some (Db l by'):=by
 unfold Cg;rw[Od (F:=fun x=>if x<0 then -1 else AA by' x) fun i s a b j=>?_]
 .rfl
 .have f:=h _ (AI a b);rw[AD a b,bs];by_cases e:0<=AA l i
  .rw[a6 (by simpa using e),AD e f.2,bs,AY (by simp;unfold AZ;omega),bs,ae (by omega)]
  .rw[ae (by simpa using e),AY (by simp;unfold AZ;omega),bs,a6 (by omega),show AA l i=-1 by omega]
theorem Ld(g:l.length<=1000)(h:∀x∈l,-1<=x/\x<by'.length):Cj l by'=some (Db l by'):=by
 unfold Cj;rw[Od (F:=fun x=>if x<0 then -1 else AA by' x) fun i s a b j=>?_]
 .rfl
 .have f:=h _ (AI a b);rw[AD a b,bs];by_cases e:AA l i<0
  .rw[a6 (by simpa using e),AY (by simp;unfold AZ;omega),bs,a6 e]
  .rw[ae (by simpa using e),bs,AD (by omega) f.2,bs,AY (by simp;unfold AZ;omega),bs,ae e]
variable{x:AF}
theorem iP(h:Ez x):Mc x=some x:=by
 have:=h.ec;have:=h.ei;have:=h.vals;unfold Mc slices_Clone_int Cz;rw[Bm (by unfold AZ;omega),bs,Bm (by unfold AZ;omega),bs];rw[Bo (fun i=>AF.mk x.d5 (x.ed.take i.toNat)) (by omega) (by rfl)]
 .rw[Int.toNat_natCast,List.take_length];rfl
 .intro i a b;have e:=h.rows _ (AI a b);rw[AD a b,bs,Bm (by unfold AZ;omega),bs,AY (by rw[bk];simp;unfold AZ;omega),bs,BS a b]
theorem Q2(l a:Fp):(Db l a).length=l.length:=by unfold Db;rw[ca]
def CO(s:AP)(p:At):d6:=⟨Db p.d3 s.mo.d3,Db p.d4 s.mo.d4⟩
variable{s:AP}{p:At}
theorem g9(a:XL s.gp p)(b:Pr s.gp s):VT (CO s p) s.ia.d5:=by
 refine ⟨by show(Db _ _).length<=1000;rw[Q2];exact a.tn,by show(Db _ _).length<=1000;rw[Q2];exact a.wj,?_,?_⟩
 .exact OX (fun x e=>by have:=a.node x e;rw[b.tn];omega) b.node
 .exact OX (fun x e=>by have:=a.edge x e;rw[b.wj];omega) b.edge
theorem aO(a:XL s.gp p)(e:Pr s.gp s)(f:Ez s.ia):GH s p=some ⟨⟨s.ia,[]⟩,s.ia,CO s p⟩:=by
 unfold GH;rw[iP f,bs,Lc a.tn (fun x b=>by have:=a.node x b;rw[e.tn];omega),bs,Lc a.wj (fun x b=>by have:=a.edge x b;rw[e.wj];omega),bs];rfl
theorem a7(a:XL s.gp p)(e:Pr s.gp s):Hf s p=some ⟨[],s.ia,CO s p⟩:=by
 unfold Hf;rw[Ld a.tn (fun x b=>by have:=a.node x b;rw[e.tn];omega),bs,Ld a.wj (fun x b=>by have:=a.edge x b;rw[e.wj];omega),bs];rfl
theorem dZ(m:d6):HP m=some (hasB m.d3 (-1)||hasB m.d4 (-1)):=by
 have a:∀l:Fp,MK l (-1)=some (hasB l (-1)):=fun l=>by
  unfold MK;exact NF l (-1)
 unfold HP;rw[a,bs];cases hasB m.d3 (-1)with
 |true=>rfl|false=>rw[ae (by decide),a,bs,bs];rfl
theorem lH(hf:Az t)(o:Jv rules){a b:AP}(q:Jw a.eg)(u:Dc a.eg.d7<=40)(v:Jw b.eg)(w:Dc b.eg.d7<=40):
  Ie t rules a b=some (if GZ t rules≠0 then GZ t rules else if(MT t a&&MT t b)=false then 1 else if a.gp=b.gp then 0 else 8):=by
 have z:(Ok t rules ⟨⟨⟨[],[]⟩,[]⟩,[]⟩).2.2=GZ t rules:=by
  by_cases h:GZ t rules=0
  .have hv:(A7 t).2=0:=by
    unfold GZ at h;split at h
    .rename_i k;exact absurd h k
    .rename_i k;exact Classical.not_not.1 k
   have hh:(FE t ⟨⟨[],[]⟩,[]⟩).2=0:=by
    unfold FE;rw[ae (by simp[hv]),ae (by simp[Bw]),ae (by simp),BW.2 (fun i j f=>by simp at f;omega)];dsimp only;rw[BW.2 (fun i j f=>by simp at f;omega)];rfl
   have g:L8 t rules ⟨⟨[],[]⟩,[]⟩=0:=by
    unfold L8;rw[ae (by simp[h])];exact hh
   rw [bB (d:=⟨⟨⟨[],[]⟩,[]⟩,[]⟩) ⟨g,by simp,fun i j f=>by simp at f;omega⟩];exact h.symm
  .have g:L8 t rules ⟨⟨[],[]⟩,[]⟩=GZ t rules:=by
    unfold L8;rw[a6 h]
   unfold Ok;rw[a6 (by rw[g];exact h)];exact g
 unfold Ie K3;rw[aY hf o,bs,z];by_cases h:GZ t rules=0
 case neg=>rw[a6 (by simpa using h),a6 h]
 rw [ae (by simp[h]),ae (by simp[h]),aP hf q u,bs];cases MT t a with
 |false=>rfl|true=>
  rw [ae (by decide),aP hf v w,bs,bs];cases MT t b with
  |false=>rfl|true=>
   rw [ae (by decide),QK,bs];by_cases e:a.gp=b.gp
   .rw[ae (by simp[e]),ae (by decide),a6 e]
   .rw[a6 (by simp[e]),ae (by decide),ae e]
end Go.Sf.Sc
namespace Go.Sf.Sc
open Go Go.Sf
noncomputable def XH(a b:AP)(p:At)(m n iso:d6):Bool:=
 if hasB ([(B6 (CO a p) m).d3,(B6 (CO a p) m).d4,(B6 (CO b p) n).d3,(B6 (CO b p) n).d4].flatten) (-1)=true then false
 else decide (Db (B6 (CO a p) m).d3 iso.d3=(B6 (CO b p) n).d3)&&decide (Db (B6 (CO a p) m).d4 iso.d4=(B6 (CO b p) n).d4)
theorem oE(a b:Fp)(v:Int):hasB (a++b) v=(hasB a v||hasB b v):=by simp[hasB]
variable{s:AP}{p:At}{d:A8}{t:AC}
theorem bW{x:AF×d6×Int}(hi:VT (CO s p) s.ia.d5)(b:d.hV=s.ia)(f:Y6 t d x):VT (B6 (CO s p) x.2.1) x.1.d5:=by
 refine ⟨by show(Db _ _).length<=1000;rw[Q2];exact hi.tn,by show(Db _ _).length<=1000;rw[Q2];exact hi.wj,?_,?_⟩
 .exact OX (fun y a=>by have:=hi.node y a;rw[f.tn,b];exact this) f.inn.node
 .exact OX (fun y a=>by have:=hi.edge y a;rw[f.wj,b];exact this) f.inn.edge
theorem gW{a b:AP}{x y:AF×d6×Int}{dl dr:A8}{f:d6}(V:Pr a.gp a)(W:Pr b.gp b)(X:XL a.gp p)(Y:XL b.gp p)(Z:dl.hV=a.ia)(hr:dr.hV=b.ia)(fx:Y6 t dl x)(fy:Y6 t dr y)(io:Qy x.1 y.1 f)(i1:f.d3.length<=1000)(i2:f.d4.length<=1000)(sa:Ez a.ia)(sb:Ez b.ia):
  ((GH a p).bind fun I=>
 (GH b p).bind fun J=>
 (Cg I.fd.d3 x.2.1.d3).bind fun K=>
 (Cg I.fd.d4 x.2.1.d4).bind fun v=>
 (Cg J.fd.d3 y.2.1.d3).bind fun w=>
 (Cg J.fd.d4 y.2.1.d4).bind fun A=>
 (EU [K,v,w,A]).bind fun L=>
 (slices_Contains_int L (-1)).bind fun M=>
 if M=true then
 some (true,false)
 else
 (Cg K f.d3).bind fun j=>
 (slices_Equal_int j w).bind fun k=>
 (if k=true then((Cg v f.d4).bind fun N=>
 (slices_Equal_int N A).bind fun o=>
 some (o))else some false).bind fun O=>
 some (true,O))=some (true,XH a b p x.2.1 y.2.1 f)/\
  ((Hf a p).bind fun B=>
 (Hf b p).bind fun C=>
 (Cj B.Aaz.d3 x.2.1.d3).bind fun D=>
 (Cj B.Aaz.d4 x.2.1.d4).bind fun E=>
 (Cj C.Aaz.d3 y.2.1.d3).bind fun F=>
 (Cj C.Aaz.d4 y.2.1.d4).bind fun j=>
 (HP (d6.mk D E)).bind fun k=>
 (if k=true then some true else((HP (d6.mk F j)).bind fun q=>
 some (q))).bind fun P=>
 if P=true then
 some (true,false)
 else
 (Cj D f.d3).bind fun o=>
 (Ch o F).bind fun Q=>
 (if Q=true then((Cj E f.d4).bind fun R=>
 (Ch R j).bind fun S=>
 some (S))else some false).bind fun T=>
 some (true,T))=some (true,XH a b p x.2.1 y.2.1 f):=by
 have G:=g9 X V;have H:=g9 Y W;have U:=bW G Z fx;have tb:=bW H hr fy;have xn:∀z∈(CO a p).d3,-1<=z/\z<x.2.1.d3.length:=fun z u=>by have:=G.node z u;rw[fx.tn,Z];exact this
 have xe:∀z∈(CO a p).d4,-1<=z/\z<x.2.1.d4.length:=fun z u=>by have:=G.edge z u;rw[fx.wj,Z];exact this
 have yn:∀z∈(CO b p).d3,-1<=z/\z<y.2.1.d3.length:=fun z u=>by have:=H.node z u;rw[fy.tn,hr];exact this
 have ye:∀z∈(CO b p).d4,-1<=z/\z<y.2.1.d4.length:=fun z u=>by have:=H.edge z u;rw[fy.wj,hr];exact this
 have l1:=U.tn;have l2:=U.wj;have l3:=tb.tn;have l4:=tb.wj;have n1:∀z∈(B6 (CO a p) x.2.1).d3,-1<=z/\z<f.d3.length:=fun z u=>by have:=U.node z u;rw[io.nl];exact this
 have n2:∀z∈(B6 (CO a p) x.2.1).d4,-1<=z/\z<f.d4.length:=fun z u=>by have:=U.edge z u;rw[io.el];exact this
 have a1:Db (CO a p).d3 x.2.1.d3=(B6 (CO a p) x.2.1).d3:=rfl;have a2:Db (CO a p).d4 x.2.1.d4=(B6 (CO a p) x.2.1).d4:=rfl;have a3:Db (CO b p).d3 y.2.1.d3=(B6 (CO b p) y.2.1).d3:=rfl;have a4:Db (CO b p).d4 y.2.1.d4=(B6 (CO b p) y.2.1).d4:=rfl;unfold XH;constructor
 .rw[aO X V sa,bs,aO Y W sb,bs];dsimp only;rw[Lc G.tn xn,bs,Lc G.wj xe,bs,Lc H.tn yn,bs,Lc H.wj ye,bs,a1,a2,a3,a4,X5 (by simp;omega),bs,Wl,bs];by_cases g:hasB ([(B6 (CO a p) x.2.1).d3,(B6 (CO a p) x.2.1).d4,(B6 (CO b p) y.2.1).d3,(B6 (CO b p) y.2.1).d4].flatten) (-1)=true
  .rw[a6 g,a6 g]
  .rw[ae g,ae g,Lc l1 n1,bs,J8,bs];by_cases e:Db (B6 (CO a p) x.2.1).d3 f.d3=(B6 (CO b p) y.2.1).d3
   .rw[a6 (by simpa using e),Lc l2 n2,bs,J8,bs,bs];simp[e]
   .rw[ae (by simpa using e),bs];simp[e]
 .rw[a7 X V,bs,a7 Y W,bs];dsimp only;rw[Ld G.tn xn,bs,Ld G.wj xe,bs,Ld H.tn yn,bs,Ld H.wj ye,bs,a1,a2,a3,a4,dZ,bs];have hg:hasB ([(B6 (CO a p) x.2.1).d3,(B6 (CO a p) x.2.1).d4,(B6 (CO b p) y.2.1).d3,(B6 (CO b p) y.2.1).d4].flatten) (-1)=((hasB (B6 (CO a p) x.2.1).d3 (-1)||hasB (B6 (CO a p) x.2.1).d4 (-1))||(hasB (B6 (CO b p) y.2.1).d3 (-1)||hasB (B6 (CO b p) y.2.1).d4 (-1))):=by
   simp only[List.flatten_cons,List.flatten_nil,List.append_nil,oE,Bool.or_assoc]
  rw [hg];dsimp only;have step:(if(hasB (B6 (CO a p) x.2.1).d3 (-1)||hasB (B6 (CO a p) x.2.1).d4 (-1))=true then some true else((HP (d6.mk (B6 (CO b p) y.2.1).d3 (B6 (CO b p) y.2.1).d4)).bind fun q=>some (q)))=some ((hasB (B6 (CO a p) x.2.1).d3 (-1)||hasB (B6 (CO a p) x.2.1).d4 (-1))||(hasB (B6 (CO b p) y.2.1).d3 (-1)||hasB (B6 (CO b p) y.2.1).d4 (-1))):=by
   cases (hasB (B6 (CO a p) x.2.1).d3 (-1)||hasB (B6 (CO a p) x.2.1).d4 (-1))with
   |true=>rfl|false=>rw[ae (by decide),dZ,bs];rfl
  rw [step,bs];by_cases g:((hasB (B6 (CO a p) x.2.1).d3 (-1)||hasB (B6 (CO a p) x.2.1).d4 (-1))||(hasB (B6 (CO b p) y.2.1).d3 (-1)||hasB (B6 (CO b p) y.2.1).d4 (-1)))=true
  .rw[a6 g,a6 g]
  .rw[ae g,ae g,Ld l1 n1,bs,QM,bs];by_cases e:Db (B6 (CO a p) x.2.1).d3 f.d3=(B6 (CO b p) y.2.1).d3
   .rw[a6 (by simpa using e),Ld l2 n2,bs,QM,bs,bs];simp[e]
   .rw[ae (by simpa using e),bs];simp[e]
end Go.Sf.Sc
namespace Go.Sf.Sc
open Go Go.Sf
variable{t:AC}{x:AF}
theorem Xx(h:Hr t x):DD x.d5/\x.ed.length=x.d5.d3.length/\∀e∈x.d5.d4,(0<=e.ib/\e.ib<x.d5.d3.length)/\0<=e.To/\e.To<x.d5.d3.length:=⟨h.g,h.len,fun e he=>(h.g.fit e he).2⟩
theorem Gu{b:Bool}{o:K1}{c:Bool}(h:b=false->o=some c):(if b=true then some true else o.bind fun x=>some (!x))=some (b||!c):=by
 cases b with
 |true=>rfl|false=>rw[ae (by decide),h rfl];rfl
structure se(t:AC)(rules:List eg)(a b:AP)(j:x6):Prop where
 gr:GZ t rules=0
 ga:MT t a=true
 gb:MT t b=true
 before:a.gp=b.gp
 left:j.gt.hV=a.ia
 right:j.ee.hV=b.ia
variable{rules:List eg}
theorem bj(hf:Az t)(f:Jv rules){a b:AP}(w:Jw a.eg)(z:Dc a.eg.d7<=40)(A:Jw b.eg)(B:Dc b.eg.d7<=40)(I:K4 a.ia)(J:K4 b.ia){j:x6}(O:K4 j.gt.hV)(P:K4 j.ee.hV)(Q:j.Iso.d3.length<=1000)(R:j.Iso.d4.length<=1000):
  ∃v,IZ t rules a b j=some v/\Ms t rules a b j=some v:=by
 unfold IZ Ms;rw[lH hf f w z A B,bs,Gu (fun _=>QK _ _),bs,Gu (fun _=>QK _ _),bs,
  YF hf f,bs,Gu (fun _=>ap hf w z I),bs,Gu (fun _=>ap hf A B J),bs,Gu (fun k=>by
   simp only[Bool.or_eq_false_iff,Bool.not_eq_false']at k;exact QO (UA hf w z k.1.2).1 (UA hf A B k.2).1),bs,Gu (fun _=>QO O I),bs,Gu (fun _=>QO P J),bs]
 by_cases g:se t rules a b j
 case neg=>
  refine ⟨(false,false),?_,?_⟩
  .rw[a6];refine Classical.byContradiction fun k=>g ?_;simp only[Bool.or_eq_true,Bool.not_eq_true',decide_eq_false_iff_not,not_or,Classical.not_not]at k;obtain⟨⟨e,u⟩,H⟩:=k;split at e
   .rename_i h;exact absurd e h
   rename_i h;split at e
   .cases e
   rename_i E;split at e
   .rename_i q;simp only[Bool.not_eq_false,o4]at E;exact⟨Classical.not_not.1 h,E.1,E.2,q,u,H⟩
   .cases e
  .rw[a6];refine Classical.byContradiction fun k=>g ?_;simp only[Bool.or_eq_true,Bool.not_eq_true',decide_eq_false_iff_not,not_or,Classical.not_not,Bool.not_eq_false]at k;obtain⟨⟨⟨⟨⟨e,u⟩,H⟩,U⟩,V⟩,W⟩:=k;exact⟨e,u,H,U,V,W⟩
 obtain ⟨X,Y,Z⟩:=UA hf w z g.ga;obtain⟨bb,tb,sb⟩:=UA hf A B g.gb;have q:=g.before;have F:=g.left;have G:=g.right;rw[ae (c:=((((!decide ((if GZ t rules≠0 then GZ t rules else if(MT t a&&MT t b)=false then 1 else if a.gp=b.gp then 0 else 8)=0))||(!decide (j.gt.hV=a.ia)))||(!decide (j.ee.hV=b.ia)))=true)) (by simp[g.gr,g.ga,g.gb,q,F,G]),
  ae (c:=(((((((!decide (GZ t rules=0))||(!MT t a))||(!MT t b))||(!decide (a.gp=b.gp)))||(!decide (j.gt.hV=a.ia)))||(!decide (j.ee.hV=b.ia)))=true)) (by simp[g.gr,g.ga,g.gb,q,F,G]),
  dO hf f,bs,dO hf f,bs,dX hf f,bs,dX hf f,bs]
 by_cases o:((!decide ((Nw t rules j.gt).2.2=0))||(!decide ((Nw t rules j.ee).2.2=0)))=true
 .refine⟨(false,false),?_,?_⟩
  .rw[a6 o,bs,a6 rfl]
  .rw[a6 o,bs,a6 rfl]
 rw [ae o,ae o];simp only[Bool.or_eq_true,Bool.not_eq_true',decide_eq_false_iff_not,not_or,Classical.not_not]at o;have C:=gl hf f o.1;have D:=gl hf f o.2;generalize Nw t rules j.gt=x at C;generalize Nw t rules j.ee=y at D;obtain⟨gx,K,ex⟩:=Xx C.ok;obtain⟨gy,L,_⟩:=Xx D.ok;obtain⟨b1,e1,e⟩:=rG C.small D.small K L ex j.Iso;obtain⟨M,e2,u⟩:=ra gx gy K L j.Iso;have S:M=b1:=by
  rw [Bool.eq_iff_iff,e,u]
 subst S;rw[e1,e2,bs,bs,bs];cases M with
 |false=>exact⟨(false,false),rfl,rfl⟩|true=>
 rw [ae (show¬(!true)=true by decide),ae (show¬(!true)=true by decide)];obtain⟨p,c1,c2,N⟩:=bl X bb;have T:XL b.gp p.1:=q▸N;rw[c1,c2,bs,bs];exact⟨_,gW Y tb N T F G C D (e.1 rfl).1 Q R Z sb⟩
theorem Ss:∀{l:Fq}(n:Nat),TV.Sms l->TV.Sms (l.take n)
 |[],n,_=>by cases n<;>trivial
 |x::l,0,_=>trivial|x::l,n+1,h=>⟨h.1,Ss n h.2⟩
theorem bP:∀{l:Fq}(n:Nat),TV.Sms l->TV.Sms (l.drop n)
 |[],n,_=>by cases n<;>trivial
 |x::l,0,h=>h|x::l,n+1,h=>bP n h.2
theorem VN:∀{l:Fq}(n:Nat),TV.sc l->TV.sc (l.take n)
 |[],n,_=>by cases n<;>trivial
 |x::l,0,_=>trivial|x::l,n+1,h=>⟨h.1,VN n h.2⟩
theorem VM:∀{l:Fq}(n:Nat),TV.sc l->TV.sc (l.drop n)
 |[],n,_=>by cases n<;>trivial
 |x::l,0,h=>h|x::l,n+1,h=>VM n h.2
variable{s:AP}
theorem cN(a:(Bv s).Sm)(b:(Bv s).WF):(Bz s.eg).Sm/\∀v∈s.ia.ed,∀x∈v,QU x:=by
 have f:TV.Sms [_,_,_,_,_,_,_,_,_,_,_,_,_,_,_,_,_,_,_,_,_,_,_,_,_,_,_,_,_,_,_,_,_,_,_,_,_,_]:=a;have w':TV.sc [_,_,_,_,_,_,_,_,_,_,_,_,_,_,_,_,_,_,_,_,_,_,_,_,_,_,_,_,_,_,_,_,_,_,_,_,_,_]:=b;refine⟨Ss 25 f,fun v hv x e=>?_⟩;have g:=(VM 33 w').1;have j:(TV.list 1 (s.ia.ed.map (eL 1 eI))).WF:=g;have k:(TV.list 1 (v.map eI)).WF:=Qv j.2 v hv;exact Qv k.2 x e
theorem Uc(st:(AM t).Sm)(a:(Bv s).Sm)(g:(Bv s).WF):∃b,Ku t s=some b/\(b=true->Jw s.eg/\Dc s.eg.d7<=40/\K4 s.ia):=by
 obtain ⟨k,w⟩:=cN a g;obtain⟨o,q,u⟩:=Q8 st;obtain⟨v,z,A⟩:=Xa (h:=s.ia);have j:∃b,GN t s.eg s.gp=some b/\(b=true->Jw s.eg/\Dc s.eg.d7<=40):=by
  cases o with
  |false=>exact⟨false,by unfold GN;rw[q];rfl,fun h=>by cases h⟩
  |true=>
   obtain ⟨b,e,f⟩:=dB (u rfl) st k s.gp;exact⟨b,e,f⟩
 obtain ⟨B,C,D⟩:=j;unfold Ku LF E7 HZ;rw[C,bs];cases B with
 |false=>exact⟨false,rfl,fun h=>by cases h⟩
 |true=>
 obtain ⟨E,F⟩:=D rfl;rw[a6 rfl,z,bs,bs];cases v with
 |false=>exact⟨false,rfl,fun h=>by cases h⟩
 |true=>
 refine ⟨_,by simp only[bs,if_true];rw[ZZ rfl,bs,ZZ rfl,bs,bs],fun _=>⟨E,F,A rfl,w⟩⟩
theorem W9(t:AC)(x:RG)(j:x6)(st:(AM t).Sm)(q:(L6 x).Sm)(u:(L6 x).WF)(C:(Ow j).Sm)(D:(Ow j).WF):LD t x j=some true:=by
 have b:TV.Sms (_::_):=q;have f:TV.sc (_::_):=u;have g:TV.Sms [_,_,_,_,_,_,_,_,_,_]:=C;have k:TV.sc [_,_,_,_,_,_,_,_,_,_]:=D;have F:(Bv x.A).Sm:=Ss 38 b.2;have G:(Bv x.B).Sm:=Ss 38 (bP 38 b.2);have H:(Bv x.A).WF:=VN 38 f.2;have I:(Bv x.B).WF:=VN 38 (VM 38 f.2);have J:=(Hl (e:=Bz) b.1).2;have a:∀{V:List Fp},(eL 1 (eL 1 eI) V).WF->∀v∈V,∀z∈v,QU z:=fun{V}w v hv z E=>by
  have o:(TV.list 1 (V.map (eL 1 eI))).WF:=w;have K:(TV.list 1 (v.map eI)).WF:=Qv o.2 v hv;exact Qv K.2 z E
 have L:=a (V:=j.gt.hV.ed) k.2.2.1;have o:=a (V:=j.ee.hV.ed) k.2.2.2.2.2.2.1;have m1:=(Hl (e:=GE) g.2.2.2.1).2;have M:=(Hl (e:=GE) g.2.2.2.2.2.2.2.1).2;obtain⟨P,Q,R⟩:=oL st J x.A.gp;obtain⟨S,T,U⟩:=Uc st F H;obtain⟨W,X,Y⟩:=Uc st G I;obtain⟨Z,e4,f4⟩:=ct (d:=j.gt) m1 (pr:=3) (by decide);obtain⟨b5,e5,f5⟩:=ct (d:=j.ee) M (pr:=3) (by decide);unfold LD;rw[kH,bs,Gu (fun _=>Q),bs,Gu (fun _=>T),bs,Gu (fun _=>X),bs,Gu (fun _=>e4),bs,Gu (fun _=>e5),bs];by_cases h:((((((((!true)||!P)||!S)||!W)||!Z)||!b5)||decide (100<(j.Iso.d3.length:Int)))||decide (100<(j.Iso.d4.length:Int)))=true
 .rw[a6 h,bs]
 rw [ae h];simp only[Bool.or_eq_true,Bool.not_eq_true',t2,not_or,Bool.not_eq_false,Bool.not_true]at h;obtain⟨⟨⟨⟨⟨⟨⟨_,h1⟩,h2⟩,h3⟩,h4⟩,h5⟩,h6⟩,h7⟩:=h;obtain⟨hf,hr⟩:=R (by simpa using h1);obtain⟨k1,k2,k3⟩:=U (by simpa using h2);obtain⟨k4,k5,k6⟩:=Y (by simpa using h3);have N:=f4 (by simpa using h4);have O:=f5 (by simpa using h5);obtain⟨v,r1,r2⟩:=bj hf hr (j:=j) k1 k2 k4 k5 k3 k6 ⟨N.start,L⟩ ⟨O.start,o⟩ (by omega) (by omega);rw[r1,r2,bs,bs];simp
end Go.Sf.Sc
