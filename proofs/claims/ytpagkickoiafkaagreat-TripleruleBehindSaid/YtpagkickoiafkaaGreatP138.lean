/- Plain lemmas: what the functions of the program and of the reference compute. -/
import Derived.Test.YtpagkickoiafkaaGreatP96
set_option linter.all false
set_option maxRecDepth 100000
open Bool renaming true->X
open List renaming any_eq_false->l!,mem_append->l?,mem_map->m_,zip_map'->m?
namespace Go.Sf.Sc
open Go Go.Sf
variable{c:Int}
theorem Rh{t:AE}{k:Int}(f:Ga t k):∀(n m:Nat)(a b:Int),a<k->a<n->b<m->b∈Ja t n a->c∈Ja t m b->c∈Ja t n a
 |0,_,_,_,_,_,_,d,_=>by simp[Ja]at d|n+1,m,a,b,o,q,p,d,i=>by
  rw [Ja]at d|-;split at d
  .cases d
  .rename_i j;rw[az j];have u:=f a U o;rcases List.mem_cons.1 d with rfl|d
   .have e:=WE f m (n+1) b o p q;rw[e,Ja,az j]at i;exact i
   .exact List.mem_cons_of_mem _ (Rh f n m (par t a) b U U p d i)
theorem RS{t:AE}(h:Dm t){a b c:Int}(j:a<t.fd.length)(d:lD t a b=X)(f:lD t b c=X):lD t a c=X:=by
 unfold lD at d f|-;rw[List.any_eq_true]at d f|-;obtain⟨x,k,e⟩:=d;obtain⟨y,n,i⟩:=f;rw[kY]at e i;subst e;subst i;exact⟨c,Rh h.par _ _ a b j U U k n,V⟩
theorem Wi{t:AE}(h:Dm t){e f g b d:Int}(hf:0<=b/\b<t.fd.length)(i:0<=d/\d<t.fd.length)(j:lD t b f=X)(k:lD t d g=X)(a:PH t e f g=X):PH t e b d=X:=by
 unfold PH at a|-;simp only[jP,Td]at a|-;exact⟨⟨⟨a.1.1.1,hf,i⟩,a.1.2⟩,RS h hf.2 j a.2.1,RS h i.2 k a.2.2⟩
end Go.Sf.Sc
namespace Go.Sf.Sc
open Go Go.Sf
theorem Su{t:AE}{r:jg}(h:NO t r=0):(∀x∈Dx r,(AD t.fd (AD r.jc.ff.fd x)).kp=false)/\∀x∈Md r,KS t r.jc.ff x=X:=by
 have a:Wy t r.jc.ff (Dx r) (Md r)=X:=by grind[NO]
 unfold Wy at a;rw[jP,Bool.not_eq_true',Bool.not_eq_true',l!,l!]at a;exact⟨λx b=>by simpa using a.1 x b,λx b=>by simpa using a.2 x b⟩
abbrev gS(t:AE)(r:jg)(h:AN)(m:AT):AN:=FD t r (HU h (dS r h m)) (cS r h m)
variable{m:AT}
theorem Ei.jw{t:AE}{r:jg}{h:AN}(s:Ei t r h m):∀e∈(gS t r h m).ff.fq,((0<=e.jK/\e.jK<(gS t r h m).ff.fd.length)/\0<=e.To/\e.To<(gS t r h m).ff.fd.length)/\PH t e.jo (AD (gS t r h m).ff.fd e.jK) (AD (gS t r h m).ff.fd e.To)=X:=by
 intro e he;have el:(gS t r h m).ff.fd=(dS r h m).fd.map (AD h.ff.fd)++(Dx r).map (AD r.jc.ff.fd):=rfl;have he:e∈(dS r h m).fq.map (λx=>Sd (Jr h (dS r h m)).fd (AD h.ff.fq x))++(Md r).map (λk=>Sd (cS r h m).fd (AD r.jc.ff.fq k)):=he;rcases l?.1 he with he|he
 .obtain⟨x,o,rfl⟩:=m_.1 he;have n:=Vk (W9 s.part).2;have b:=n.jw.1 x o;have a:=n.ends x o;have hf:=(s.hh.g.fit _ (CL b.1 b.2)).2;have w:=(Ms s.he).2 x b.1 b.2;have fit:KS t h.ff x=X:=by
   unfold MC at w
   grind
  have at_:∀y,y∈(dS r h m).fd->0<=y->y<h.ff.fd.length->(0<=AD (Jr h (dS r h m)).fd y/\AD (Jr h (dS r h m)).fd y<(gS t r h m).ff.fd.length)/\AD (gS t r h m).ff.fd (AD (Jr h (dS r h m)).fd y)=AD h.ff.fd y:=λy q u v=>by
   have hi:=MG q;rw[show AD (Jr h (dS r h m)).fd y=Eo (dS r h m).fd y from S5 u v,el,bq,ec];refine⟨⟨hi.1,by have:=hi.2.1;push_cast;omega⟩,?_⟩;rw[VG hi.1 (by rw[ec];exact hi.2.1),KO hi.1 hi.2.1,hi.2.2.1]
  obtain ⟨a1,a2⟩:=at_ _ a.1 hf.1.1 hf.1.2;obtain⟨i,j⟩:=at_ _ a.2 hf.2.1 hf.2.2;refine⟨⟨a1,i⟩,?_⟩;simp only[Sd];rw[a2,j];exact fit
 .obtain⟨k,p,rfl⟩:=m_.1 he;have d:0<=k/\k<r.jc.ff.fq.length:=GT p;have hf:=(s.ro.right.fit _ (CL d.1 d.2)).2;obtain⟨a1,z,a2⟩:=s.mT hf.1.1 hf.1.2;obtain⟨i,A,j⟩:=s.mT hf.2.1 hf.2.2;have f:=s.put.kind;refine⟨⟨a1,i⟩,?_⟩;exact Wi (MV s.hv) ⟨(f _ (CL a1.1 a1.2)).1,z⟩ ⟨(f _ (CL i.1 i.2)).1,A⟩ a2 j ((Su s.re).2 k p)
end Go.Sf.Sc
namespace Go.Sf.Sc
open Go Go.Sf
def WQ(t:AE)(k:Int)(v:Fp):Prop:=v.length=(BG t k).length/\∀j:Int,0<=j->j<v.length->(AD (BG t k) j).li<=AD v j/\AD v j<=(AD (BG t k) j).kJ
variable{m:AT}
theorem Ei.ji{t:AE}{r:jg}{h:AN}(s:Ei t r h m):(∀n∈(gS t r h m).ff.fd,(AD t.fd n).kp=false)/\∀v n,(n,v)∈(gS t r h m).ff.fd.zip (gS t r h m).jf->WQ t n v:=by
 have w:=MV s.hv;have el:(gS t r h m).ff.fd=(dS r h m).fd.map (AD h.ff.fd)++(Dx r).map (AD r.jc.ff.fd):=rfl;have ev:(gS t r h m).jf=(dS r h m).fd.map (AD h.jf)++(Dx r).map (λk=>Q3 t (AD r.jc.ff.fd k)):=rfl;have old:∀x∈(dS r h m).fd,(AD t.fd (AD h.ff.fd x)).kp=false/\WQ t (AD h.ff.fd x) (AD h.jf x):=λx a=>by
  have a:=s.rem.ji.1 x a;have b:=(Ms s.he).1 x a.1 a.2;unfold MD at b;split at b
  .cases b
  split at b
  .cases b
  split at b
  .cases b
  split at b
  .cases b
  rename_i a1 a2 z A;refine⟨by simpa using a2,Classical.not_not.1 z,λj p q=>?_⟩;have:=Gb.1 (by simpa using A) j p U;simp[Ui]at this;omega
 have new:∀k∈Dx r,WQ t (AD r.jc.ff.fd k) (Q3 t (AD r.jc.ff.fd k)):=λk u=>by
  have i:0<=k/\k<r.jc.ff.fd.length:=GT u;have o:=(GZ s.ro.right s.ro.l5).1 _ (CL i.1 i.2);refine⟨by simp[Q3],λj p q=>?_⟩;simp only[Q3,ec]at q|-;have:=VJ s.hf w o.1 o.2 _ (CL p q);rw[show AD ((BG t (AD r.jc.ff.fd k)).map λx=>x.li) j=(AD (BG t (AD r.jc.ff.fd k)) j).li by grind[AD,List.getElem?_eq_getElem]];omega
 refine ⟨λn f=>?_,λv n d=>?_⟩
 .rw[el]at f;rcases l?.1 f with f|f
  .obtain⟨x,a,rfl⟩:=m_.1 f;exact(old x a).1
  .obtain⟨k,u,rfl⟩:=m_.1 f;exact(Su s.re).1 k u
 .rw[el,ev,List.zip_append V]at d;rcases l?.1 d with d|d
  .rw[m?,m_]at d;obtain⟨x,a,e⟩:=d;cases e;exact(old x a).2
  .rw[m?,m_]at d;obtain⟨x,a,e⟩:=d;cases e;exact new x a
end Go.Sf.Sc
namespace Go.Sf.Sc
open Go Go.Sf
end Go.Sf.Sc
namespace Go.Sf
end Go.Sf
namespace Go.Sf.Sc
open Go Go.Sf
section
variable{t:AE}{s:Ba}{rules:List jg}
end
section
variable{t:AE}{s:Ba}{rules:List jg}
end
end Go.Sf.Sc
namespace Go.Sf.Sc
open Go Go.Sf
section
variable{t:AE}{s:Ba}{r:jg}
end
end Go.Sf.Sc
namespace Go.Sf.Sc
open Go Go.Sf
structure gu(t:AE)(s:Ba):Prop where
 ok:Dm t
 node:∀i:Int,0<=i->i<t.fd.length->eT (AD s.fd i)=X/\(0<=par t i->AD s.fd (par t i)=AD s.fd i)
 edge:∀i:Int,0<=i->i<t.fq.length->AD s.fd (AD t.fq i).jK=AD s.fq i/\(AD s.fd (AD t.fq i).To≠AD s.fq i↔AD s.fq i=2)
end Go.Sf.Sc
namespace Go.Sf
end Go.Sf
namespace Go.Sf.Sc
open Go Go.Sf
structure iJ(I0 J θ yN:Fp)(gn:Nat):Prop where
 jt:∀v∈J,v∈θ
 ylen:yN.length=θ.length
 yr:∀k∈yN,0<=k/\k<gn
 ynd:yN.Nodup
 fit:∀v∈θ,v∉J->AD yN (Eo θ v)∉I0
 ir:∀k∈I0,0<=k/\k<gn
section
variable{I0 J θ yN:Fp}{gn:Nat}
end
end Go.Sf.Sc
namespace Go.Sf.Sc
open Go Go.Sf
structure iA(r:jg):Prop where
 ls:r.jn.jh=[]
 lt:r.jn.jJ=[]
 rs:r.jc.jh=[]
 lv:r.jn.jk=0
 inj:r.jQ=X
 cond:r.gt.jI=1
 kn:r.j5.fd=Hc r.jn.ff.fd.length
 ke:r.j5.fq=Hc r.jn.ff.fq.length
structure SC(p g:ff)(M:f0):Prop where
 nl:M.fd.length=p.fd.length
 el:M.fq.length=p.fq.length
 node:∀i:Int,0<=i->i<p.fd.length->(0<=AD M.fd i/\AD M.fd i<g.fd.length)/\AD g.fd (AD M.fd i)=AD p.fd i
 edge:∀i:Int,0<=i->i<p.fq.length->(0<=AD M.fq i/\AD M.fq i<g.fq.length)/\AD g.fq (AD M.fq i)=⟨(AD p.fq i).jo,AD M.fd (AD p.fq i).jK,AD M.fd (AD p.fq i).To⟩
 nnd:M.fd.Nodup
 ednd:M.fq.Nodup
theorem SC.chk{t:AE}{p g:ff}{M:f0}(h:SC p g M)(hv:(CF t).2=0)(d:CB p)(tp:Cf t p=X)(e:CB g)(f:Cf t g=X)(inj:Bool):Pq t p g M inj=0:=by
 have k:JS t p g=0:=by
  unfold JS;rw[az (by simp[hv]),az (by simp[J1 d]),az (by simp[J1 e]),tp,f];rfl
 have n:R7 t p g M=0:=by
  unfold R7;rw[az (by have:=h.nl;have:=h.el;omega),CE.2]
  .dsimp only;rw[CE.2]
   .rfl
   intro i a j;obtain⟨o,b⟩:=h.edge i a (by have:=h.el;omega);unfold MH;rw[az U,b,az V,az V]
  .intro i a j;obtain⟨o,b⟩:=h.node i a (by have:=h.nl;omega);unfold VN;rw[az U,b,SV ((GZ d tp).1 _ (CL a (by have:=h.nl;omega))).1,az a?]
 unfold Pq Pu;rw[az (by simp[k]),az (by simp[n]),Mf.2 h.nnd,Mf.2 h.ednd,az (by cases inj<;>decide)]
section
variable{t:AE}{s:Ba}{r:jg}{h:AN}{M:f0}
theorem SC.mor{a b:ff}{m:f0}(h:SC a b m)(f:CB a)(j:CB b):Mx a b m=0:=by
 unfold Mx;rw[az (by simp[J1 f]),az (by simp[J1 j]),az (by simp[h.nl,h.el]),CE.2]
 .dsimp only;rw[CE.2]
  .rfl
  intro i d k;obtain⟨n,e⟩:=h.edge i d (by have:=h.el;omega);unfold MH;rw[az U,e,az V,az V]
 .intro i d k;obtain⟨n,e⟩:=h.node i d (by have:=h.nl;omega);unfold OZ;rw[az U,az c_]
end
end Go.Sf.Sc
namespace Go.Sf.Sc
open Go Go.Sf
section
variable{t:AE}{s:Ba}{r:jg}{h:AN}{M:f0}
end
end Go.Sf.Sc
namespace Go.Sf.Sc
open Go Go.Sf
section
variable{t:AE}{s:Ba}{r:jg}{l:Fp}
variable{g:ff}{y:f0}
end
end Go.Sf.Sc
namespace Go.Sf.Sc
open Go Go.Sf
section
variable{t:AE}{s:Ba}{r:jg}{l:Fp}{g B:ff}{iso y M:f0}
end
structure jC(t:AE)(g:ff):Prop where
 ok:CB g
 kind:∀n∈g.fd,0<=n/\n<t.fd.length
 et:∀e∈g.fq,e.jo<t.fq.length
end Go.Sf.Sc
