/- Plain lemmas: what the functions of the program and of the reference compute. -/
import Derived.Test.YtpagkickoiafkaaGreatP206
set_option linter.all false
set_option maxRecDepth 100000
namespace Go.Sf
theorem r7{σ ρ:Type}{f g:Int->σ->Option (B3 σ ρ)}{a b:Int}{s:σ}(h:∀i s,a<=i->i<b->f i s=g i s):Aj f a b s=Aj g a b s:=by
 have key:∀(n:Nat)(a:Int)(s:σ),(∀i s,a<=i->i<a+n->f i s=g i s)->FR f n a s=FR g n a s:=λn=>by
  induction n with
  |zero=>intro a s _;rfl|succ n j=>
   intro a s h;rw[Em,Em,h a s (Int.le_refl _) U];cases g a s with
   |none=>rfl|some c=>
    cases c with
    |next s'=>exact j _ _ λi s d e=>h i s U U|brk s'=>rfl|ret r=>rfl
 unfold Aj;exact key _ _ _ λi s d e=>h i s d U
end Go.Sf
namespace Go.Sf.Sc
open Go Go.Sf
section
variable{a b:AH}
theorem XS(d:QK a)(h:QK b):∀(k:Nat)(l:Fp),l.length+k=a.ci.bq.length->∀n c,k+1<=n->k+1<=c->D4 n a b l=D4 c a b l
 |k,l,u,n,c,hn,r=>by
  obtain ⟨n,rfl⟩:∃j,n=j+1:=⟨n-1,U⟩;obtain⟨c,rfl⟩:∃j,c=j+1:=⟨c-1,U⟩;have ga:=d.g.d6;rw[D4.eq_2,D4.eq_2];by_cases e:(l.length:Int)=a.ci.bq.length
  .rw[QQ h_,QQ h_]
  rw [aE h_,aE h_];obtain⟨k,rfl⟩:∃j,k=j+1:=⟨k-1,U⟩;rw[r7 λi s p q=>?_];rw[gZ,bs];cases hh:hasB l i with
  |true=>rfl|false=>
   rw [aE a_,AD U U,bs,AD p q,bs,bs];by_cases f:AA a.ci.bq l.length=AA b.ci.bq i
   .obtain⟨t,e0,o⟩:=R0 (l:=[]) (m:=[]) V V V V;rw[aE d_,AD U (by have:=d.len;omega),bs,AD p o!,bs,d.at,h.at,e0,bs,o.2 rfl,bs,aE a_,BO a?,bs,AU a!,bs,XS d h k (l++[i]) q_ n c U U];rw[bs,aE a_,bs,aE d_,bs,aE a_,bs,AU a!,bs]
   .rw[QQ d_,bs,QQ rfl];rw[bs,aE a_,bs,QQ d_,bs,QQ rfl]
theorem v7{t:AC}(hf:Ay t)(D:(Cy t a).2=0)(E:(Cy t b).2=0)(h:QK a)(l:QK b)(N:a.ci.bq.length<=8){m:cE}(q:Ud a b m):∃m',N4 t a b=some (m',0):=by
 have nn:=q.d6;have ga:=h.g.d7;obtain⟨v,ev,F,G⟩:=mG h l a.ci.bq.length [] V ⟨λx p=>(by cases p),λj k f d=>by simp at d;omega⟩ (a.ci.bq.length+1) (aN _);have e:Tj a b []=some v:=EG (a.ci.bq.length+1) λn hn=>by
  rw [XS h l a.ci.bq.length [] V n (a.ci.bq.length+1) U (aN _),ev]
 have z:=G m q λj f d=>by simp at d;omega
 obtain ⟨⟨Q,H⟩,R⟩:=F z;unfold N4 GV;rw[Sp hf,bs,aE (by simp[D]),Sp hf,bs,aE (by simp[E]),aE an,e,bs,aE (by simp[z,nn]),QQ U,bs];refine XW (P:=λo=>∃m',o=some (m',(0:Int))) (λ_(s:cE)=>s.ca.length=a.ci.ca.length) U V (λi s r u c=>?_) λs _=>⟨s,rfl⟩;refine XW (P:=λo=>∃s':cE,o=some s'/\s'.ca.length=a.ci.ca.length) (λ_(s:cE)=>s.ca.length=a.ci.ca.length) U c (λk s w y c=>?_) λs c=>⟨s,rfl,c⟩;obtain⟨I,J,C⟩:=VE ga i k;obtain⟨K,L,M⟩:=VE (g:=b.ci) l.g.d7 (AA v.1 i) (AA v.1 k);have O:I.length=K.length:=by
  have A:=congrArg List.length C.ty;have B:=congrArg List.length M.ty;rw[az]at A B;rw[A,B,H i k r u w y]
 rw [J,bs,AD r u,bs,AD w y,bs,L,bs];refine XW (P:=λo=>∃s':cE,o=some s'/\s'.ca.length=a.ci.ca.length) (λ_(s:cE)=>s.ca.length=a.ci.ca.length) U c (λj s f d c=>?_) λs c=>⟨s,rfl,c⟩;have p:=(Kd.1 (C.perm.mem_iff.1 (AG f d))).1;rw[AD f d,bs,AD f U,bs,AD p.1 U,bs];exact⟨_,rfl,by simp[BM,c]⟩
end
end Go.Sf.Sc
