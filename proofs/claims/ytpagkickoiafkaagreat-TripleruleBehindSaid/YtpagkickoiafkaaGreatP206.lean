/- Plain lemmas: what the functions of the program and of the reference compute. -/
import Derived.Test.YtpagkickoiafkaaGreatP205
set_option linter.all false
set_option maxRecDepth 100000
namespace Go.Sf.Sc
open Go Go.Sf
theorem kX{ρ:Type}{ζ:Option (B3 Unit ρ)}{A:Prop}{R:ρ->Prop}(h:∃o,ζ=some o/\((o=.next ()/\A)\/∃r,o=.ret r/\R r)):(∃s',ζ=some (.next s')/\A)\/∃r,ζ=some (.ret r)/\R r:=by
 obtain ⟨o,e,⟨c,d⟩|⟨r,c,d⟩⟩:=h
 .exact .inl ⟨(),by rw[e,c],d⟩
 .exact .inr ⟨r,by rw[e,c],d⟩
section
variable{a b:AH}
structure Ud(a b:AH)(m:cE):Prop where
 m:EY a.ci b.ci m
 d6:a.ci.bq.length=b.ci.bq.length
 d7:a.ci.ca.length=b.ci.ca.length
structure QK(a:AH):Prop where
 g:BW a.ci
 len:a.eg.length=a.ci.bq.length
 rows:∀v∈a.eg,v=[]
theorem QK.at{a:AH}(h:QK a)(i:Int):AA a.eg i=[]:=by
 unfold AA;rw[List.getD_eq_getElem?_getD];cases e:a.eg[i.toNat]? with
 |none=>rfl|some x=>exact h.rows x (List.mem_of_getElem? e)
def YO(l:Fp)(m:cE):Prop:=∀j:Int,0<=j->j<l.length->AA l j=AA m.bq j
variable{l:Fp}{i:Int}
theorem XE:AA (l++[i]) l.length=i:=by
 have:=Q9 (a:=l) (b:=[i]) (i:=(l.length:Int)) (Int.le_refl _);rw[this,Int.sub_self];rfl
variable{j:Int}
theorem XF(c:0<=j)(d:j<l.length):AA (l++[i]) j=AA l j:=DV c d
abbrev S6(a b:ci)(l:Fp)(i j:Int):Prop:=Ni a j l.length=Ni b (AA (l++[i]) j) i/\Ni a l.length j=Ni b i (AA (l++[i]) j)
theorem oC(h:YP a.ci b.ci l)(n:0<=i)(o:i<b.ci.bq.length)(f:∀j:Int,0<=j->j<=l.length->S6 a.ci b.ci l i j):YP a.ci b.ci (l++[i]):=by
 refine ⟨λx c=>?_,λj k d p e q=>?_⟩
 .rcases List.mem_append.1 c with c|c
  .exact h.1 x c
  .obtain rfl:=List.mem_singleton.1 c;exact⟨n,o⟩
 .rw[a5,List.length_singleton]at p q;by_cases r:j=l.length
  .obtain⟨g,m⟩:=f k e U;rw[r,XE];exact m
  .by_cases s:k=l.length
   .obtain⟨g,m⟩:=f j d U;rw[s,XE];exact g
   .rw[XF d U,XF e U];exact h.2 j k d U e U
theorem sH{m:cE}(h:Ud a b m)(ga:BW a.ci)(d:YO l m)(g:l.length<a.ci.bq.length)(hi:AA m.bq l.length=i)(c:0<=j)(k:j<=l.length):S6 a.ci b.ci l i j:=by
 have e:AA (l++[i]) j=AA m.bq j:=by
  by_cases f:j=l.length
  .rw[f,XE,hi]
  .rw[XF c U,d j c U]
 unfold S6;rw[e,<-hi];exact⟨cJ h.m h.d7 ga c U U U,cJ h.m h.d7 ga U U c U⟩
theorem mG(u:QK a)(w:QK b):∀(k:Nat)(l:Fp),l.length+k=a.ci.bq.length->YP a.ci b.ci l->∀n,k+1<=n->∃v,D4 n a b l=some v/\(v.2=true->YP a.ci b.ci v.1/\v.1.length=a.ci.bq.length)/\∀m,Ud a b m->YO l m->v.2=true
 |k,l,hl,hf,n,hn=>by
  obtain ⟨n,rfl⟩:∃j,n=j+1:=⟨n-1,U⟩;have ga:=u.g.d6;have gb:=w.g.d6;rw[D4.eq_2];by_cases J:(l.length:Int)=a.ci.bq.length
  .rw[QQ (by simpa using J)];exact⟨_,rfl,λ_=>⟨hf,q?⟩,λ_ _ _=>rfl⟩
  rw [aE (by simpa using J)];obtain⟨k,rfl⟩:∃j,k=j+1:=⟨k-1,U⟩;have ne:=AG (l:=a.ci.bq) (i:=(l.length:Int)) U U;refine vC (P:=λo=>∃v:Fp×Bool,o=some v/\(v.2=true->YP a.ci b.ci v.1/\v.1.length=a.ci.bq.length)/\∀m,Ud a b m->YO l m->v.2=true) (λi _=>∀m,Ud a b m->YO l m->i<=AA m.bq l.length) (λ(v:Fp×Bool)=>v.2=true/\YP a.ci b.ci v.1/\v.1.length=a.ci.bq.length) U (λm d _=>(d.m.node _ U U).1.1) (λi s B H M=>?_) (λs h=>⟨_,rfl,λh=>d!,λm d f=>?_⟩) λr h=>⟨_,rfl,λ_=>h.2,λ_ _ _=>h.1⟩
  .have A:(∀m,Ud a b m->YO l m->AA m.bq l.length≠i)->∀m,Ud a b m->YO l m->i+1<=AA m.bq l.length:=λh m d f=>by
    have:=M m d f;have:=h m d f;omega
   rw [gZ,bs];cases hh:hasB l i with
   |true=>
    refine .inl ⟨(),rfl,A λm d f e=>?_⟩;obtain⟨j,t,x,z⟩:=A9 (Aq.1 hh);have nl:=d.m.nl;have y:=Df d.m.nnd t U;have N:=Df d.m.nnd (i:=(l.length:Int)) U U;rw[<-f j t x,z]at y;rw[e]at N;omega
   |false=>
    rw [aE a_,AD U U,bs,AD B H,bs,bs];by_cases D:AA a.ci.bq l.length=AA b.ci.bq i
    .obtain⟨v0,e0,E⟩:=R0 (l:=[]) (m:=[]) V V V V;rw[aE (by simpa using D),AD U (by have:=u.len;omega),bs,AD B (by have:=w.len;omega),bs,u.at,w.at,e0,bs,E.2 rfl,bs,aE a_,BO a?,bs,AU a!,bs];refine kX (UO (λ(n:Nat)(s:Bool×Int)=>(0<=s.2/\s.2+(n:Int)=l.length+1)/\((s.1=true/\∀j:Int,0<=j->j<s.2->S6 a.ci b.ci l i j)\/(s.1=false/\∃j:Int,(0<=j/\j<=l.length)/\¬S6 a.ci b.ci l i j)))
      (λs=>(s.1=true/\∀j:Int,0<=j->j<=l.length->S6 a.ci b.ci l i j)\/(s.1=false/\∃j:Int,(0<=j/\j<=l.length)/\¬S6 a.ci b.ci l i j)) (l.length+1) ⟨⟨V,V⟩,.inl ⟨rfl,λj t x=>by simp at x;omega⟩⟩ (λn s⟨C,c⟩=>?_) (λs⟨C,c⟩=>?_) λs c=>?_)
     .obtain⟨fl,j⟩:=s;dsimp only at C c|-;rcases c with⟨c,p⟩|⟨c,p⟩
      .subst c;have O:j<(l++[i]).length:=q_
       obtain ⟨L1,Q,_,R⟩:=X7 u.g j l.length;obtain⟨L2,S,_,θ⟩:=X7 w.g (AA (l++[i]) j) i;obtain⟨L3,ε,_,c3⟩:=X7 u.g l.length j;obtain⟨L4,κ,_,c4⟩:=X7 w.g i (AA (l++[i]) j);obtain⟨v1,η,ζ⟩:=rF u.g w.g j l.length (AA (l++[i]) j) i;obtain⟨v2,δ,Z⟩:=rF u.g w.g l.length j i (AA (l++[i]) j);refine .inl ⟨(decide (S6 a.ci b.ci l i j),j+1),?_,⟨q?,q?⟩,?_⟩
       .rw[QQ an,Q,bs,R,bs,AD C.1 O,bs,S,bs,θ,bs,η,bs,ζ,Ar U U];by_cases y:Ni a.ci j l.length=Ni b.ci (AA (l++[i]) j) i
        .rw[QQ i!,ε,bs,c3,bs,bs,κ,bs,c4,bs,δ,bs,Z,bs];congr 3;rw[Bool.eq_iff_iff,ml,ml];exact⟨λh=>⟨y,h⟩,λh=>h.2⟩
        .rw[aE i!,bs];congr 3;rw[decide_eq_false (λh=>y h.1)]
       .by_cases q:S6 a.ci b.ci l i j
        .refine .inl ⟨decide_eq_true q,λI t x=>?_⟩;by_cases z:I=j
         .rw[z];exact q
         .exact p I t (by dsimp only at x;omega)
        .exact .inr ⟨decide_eq_false q,j,⟨U,U⟩,q⟩
      .subst c;rw[aE V];exact .inr ⟨_,rfl,.inr ⟨rfl,p⟩⟩
     .rw[aE an];refine⟨_,rfl,?_⟩;rcases c with⟨c,p⟩|⟨c,p⟩
      .exact .inl ⟨c,λj t x=>p j t U⟩
      .exact .inr ⟨c,p⟩
     .rcases c with⟨c,p⟩|⟨c,j,L,p⟩
      .obtain⟨v,ev,F,G⟩:=mG u w k (l++[i]) q_ (oC hf B H p) n U;rw[aE (by simp[c]),ev,bs];cases K:v.2 with
       |true=>exact⟨_,by rw[QQ rfl],.inr ⟨(v.1,true),rfl,rfl,F K⟩⟩|false=>
        refine ⟨_,by rw[aE a_],.inl ⟨rfl,A λm d f e=>?_⟩⟩;have:=G m d λj t x=>by
         rw [a5,List.length_singleton]at x;by_cases z:j=l.length
         .rw[z,XE,e]
         .rw[XF t U,f j t U]
        rw [K]at this;cases this
      .rw[QQ (by simp[c])];exact⟨_,rfl,.inl ⟨rfl,A λm d f e=>p (sH d u.g f U e L.1 L.2)⟩⟩
    .rw[QQ (by simpa using D),bs,QQ rfl];refine .inl ⟨(),rfl,A λm d f e=>D ?_⟩;rw[<-e,(d.m.node l.length U U).2]
  .have:=h m d f;have:=(d.m.node l.length U U).1.2;omega
end
end Go.Sf.Sc
