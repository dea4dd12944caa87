/- Plain lemmas: what the functions of the program and of the reference compute. -/
import Derived.Test.YtpagkickoiafkaaGreatP138
set_option linter.all false
set_option maxRecDepth 100000
open List renaming take_append_drop->v?,pairwise_append->w_,getD_eq_getElem?_getD->w!,getElem?_eq_getElem->w?,append_nil->x_
namespace Go.Sf
theorem vC{σ ρ β:Type}{f:Int->σ->Option (B3 σ ρ)}{k:σ->Option β}{j:ρ->Option β}{P:Option β->Prop}(I:Int->σ->Prop)(R:ρ->Prop){a b:Int}{s:σ}(d:a<=b)(l:I a s)
  (h:∀i s,a<=i->i<b->I i s->(∃s',f i s=some (.next s')/\I (i+1) s')\/∃r,f i s=some (.ret r)/\R r)(m:∀s,I b s->P (k s))(n:∀r,R r->P (j r)):P (AL (Aj f a b s) k j):=by
 rcases Wc I (λ_=>False) R d l (λi s o p q=>(h i s o p q).imp id .inr)with⟨s',e,h⟩|⟨r,e,h⟩
 .rw[e,Bj];exact m s' (h.resolve_right id)
 .rw[e,R6];exact n r h
end Go.Sf
namespace Go.Sf.Sc
open Go Go.Sf
def RA(g:ci)(a c:Int)(n:Nat):Fp:=(Ak n).filter λi=>decide ((AA g.ca i).fd=a)&&decide ((AA g.ca i).To=c)
def QJ(g:ci)(i:Int):Int:=(AA g.ca i).fa
structure VX(g:ci)(a c:Int)(n:Nat)(L:Fp):Prop where
 perm:L.Perm (RA g a c n)
 sort:L.Pairwise λi j=>QJ g i<=QJ g j
def Ni(g:ci)(a c:Int):Fp:=QY ((RA g a c g.ca.length).map (QJ g))
variable{g:ci}
theorem Kd{a c i:Int}{n:Nat}:i∈RA g a c n↔(0<=i/\i<n)/\(AA g.ca i).fd=a/\(AA g.ca i).To=c:=by
 unfold RA;rw[List.mem_filter,CB,gN,ml,ml]
theorem YT(g:ci)(a c:Int)(n:Nat):(RA g a c n).length<=n:=by
 have:=List.length_filter_le (λi=>decide ((AA g.ca i).fd=a)&&decide ((AA g.ca i).To=c)) (Ak n)
 rwa [Az]at this
variable{a c:Int}
theorem VX.ty{L:Fp}(h:VX g a c g.ca.length L):L.map (QJ g)=Ni g a c:=by
 refine List.Perm.eq_of_pairwise (le:=(·<=·)) (λx y _ _ b d=>Int.le_antisymm b d) ?_ (JO _) ((h.perm.map _).trans (G8 _).symm);rw[List.pairwise_map];exact h.sort
theorem VE(K:g.ca.length<=80)(a c:Int):∃L,DX g a c=some L/\VX g a c g.ca.length L:=by
 unfold DX;refine XW (P:=λo=>∃L,o=some L/\VX g a c g.ca.length L) (λi L=>VX g a c i.toNat L) U ⟨List.Perm.refl _,List.Pairwise.nil⟩ (λi L B E d=>?_) λL h=>⟨L,rfl,c?⟩;have b:RA g a c (i+1).toNat=RA g a c i.toNat++if(decide ((AA g.ca i).fd=a)&&decide ((AA g.ca i).To=c))=true then[i]else[]:=by
  unfold RA;rw[Fd B,List.filter_append];congr 1;cases h:(decide ((AA g.ca i).fd=a)&&decide ((AA g.ca i).To=c))<;>simp[h]
 have z:∀x∈L,0<=x/\x<g.ca.length:=λx m=>by
  have:=(Kd.1 (d.perm.mem_iff.1 m)).1;omega
 have C:L.length<=80:=by
  rw [d.perm.length_eq];have:=YT g a c i.toNat
  omega
 rw [AD B E,bs];by_cases r:(AA g.ca i).fd=a
 .by_cases hT:(AA g.ca i).To=c
  .rw[aE (by simp[r]),bs,bs,aE (by simp[hT])];rw[r,hT]at b;simp only[decide_true,Bool.and_self,if_true]at b;refine UO (λ(n:Nat)(k:Int)=>(k=n/\n<=L.length)/\∀j:Int,k<=j->j<L.length->QJ g i<QJ g (AA L j)) (λk=>(0<=k/\k<=L.length)/\(∀j:Int,k<=j->j<L.length->QJ g i<QJ g (AA L j))/\(k=0\/QJ g (AA L (k-1))<=QJ g i)) L.length ⟨⟨rfl,aN _⟩,λj w s=>U⟩ (λn k⟨⟨t,u⟩,p⟩=>?_) (λk⟨⟨t,u⟩,p⟩=>?_) λk⟨⟨t,u⟩,p,q⟩=>?_
   .have D:=z _ (AG (l:=L) (i:=k-1) U U);rw[QQ an,Ar U U,AD U U,bs,AD D.1 D.2,bs,bs,bs];by_cases A:(AA g.ca i).fa<(AA g.ca (AA L (k-1))).fa
    .rw[QQ u'];refine .inl ⟨_,rfl,⟨U,U⟩,λj w s=>?_⟩;by_cases e:j=k-1
     .rw[e];exact A
     .exact p j U s
    .rw[aE u'];exact .inr ⟨_,rfl,⟨U,U⟩,p,.inr (by unfold QJ;omega)⟩
   .rw[aE an,bs,aE a_];exact⟨_,rfl,⟨U,U⟩,p,.inl U⟩
   .rw[jq t u,bs,BO (by rw[a6];unfold AY;omega),bs,AU a!,bs,Ww t u,bs,AU a!,bs];refine⟨_,rfl,?_,?_⟩
    .rw[b,bk];refine(List.perm_middle).trans ((List.Perm.cons i ?_).trans (List.perm_append_singleton i _).symm);rw[show([]:Fp).append (L.drop k.toNat)=L.drop k.toNat from rfl,v?];exact d.perm
    .have v:=d.sort;rw[<-v? k.toNat L,w_]at v;obtain⟨I,s2,J⟩:=v;rw[bk,w_];refine⟨I,?_,λx m y f=>?_⟩
     .rw[List.singleton_append,List.pairwise_cons];refine⟨λy f=>?_,s2⟩;obtain⟨n,hn,rfl⟩:=List.mem_iff_getElem.1 f;rw[List.length_drop]at hn;have e:(L.drop k.toNat)[n]=AA L (k+n):=by
       rw [List.getElem_drop];unfold AA;rw[w!,w? U];simp only[Option.getD_some];congr 1;omega
      rw [e];have:=p (k+n) U U;omega
     .rcases List.mem_append.1 f with f|f
      .obtain rfl:=List.mem_singleton.1 f;rcases q with q|q
       .rw[q]at m;simp at m
       .obtain⟨j,w,s,rfl⟩:=A9 m;rw[a6]at s;have e:AA (L.take k.toNat) j=AA L j:=by
         have:=kR (l:=L) (i:=k) (j:=j) w U;exact this
        rw [e];by_cases F:j=k-1
        .rw[F];exact q
        .have v:=d.sort;have:=List.pairwise_iff_getElem.1 v j.toNat (k-1).toNat U U U;have G:L[j.toNat]' U=AA L j:=by
          unfold AA;rw[w!,w? U];rfl
         have H:L[(k-1).toNat]' U=AA L (k-1):=by
          unfold AA;rw[w!,w? U];rfl
         rw [G,H]at this;omega
      .exact J x m y f
  .rw[aE (by simp[r]),bs,bs,QQ (by simp[hT])];rw[show(decide ((AA g.ca i).fd=a)&&decide ((AA g.ca i).To=c))=false by simp[hT],aE a_,x_]at b;exact⟨L,rfl,by rw[b];exact d.perm,d.sort⟩
 .rw[QQ (by simp[r]),bs,QQ rfl];rw[show(decide ((AA g.ca i).fd=a)&&decide ((AA g.ca i).To=c))=false by simp[r],aE a_,x_]at b;exact⟨L,rfl,by rw[b];exact d.perm,d.sort⟩
end Go.Sf.Sc
