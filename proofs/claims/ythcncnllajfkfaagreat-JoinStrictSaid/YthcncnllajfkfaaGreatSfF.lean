/- The entries of a map, stored one by one into a list of lists: the order does not matter. -/
import Derived.Test.YthcncnllajfkfaaGreatSfCode
import Derived.Test.YthcncnllajfkfaaGreatSfStep
set_option linter.all false
open Option renaming some->Y
open List renaming mem_cons->v1,pairwise_cons->v5,ext_getElem?->v6,length->v_,getElem?_map->v!
namespace Go.Sf
def Cl(κ:List Fp)(p:(Int×Int)×Int):List Fp:=
 if 0<=p.1.1/\0<=p.1.2 then κ.modify p.1.1.toNat (λr=>r.set p.1.2.toNat p.2)else κ
def Bq.Dis(kvs:Bq):Prop:=kvs.Pairwise λa b=>a.1≠b.1
theorem Bq.set_keys(k:Int×Int)(n:Int):∀(kvs:Bq)(p:(Int×Int)×Int),p∈kvs.set k n->p.1=k\/p∈kvs
 |[],p,h=>by simp[Bq.set]at h;subst h;exact .inl rfl|q::r,p,h=>by
  simp [Bq.set]at h;split at h
  .grind
  .rcases v1.1 h with rfl|h
   .exact .inr V
   .exact(Bq.set_keys k n r p h).imp id (List.mem_cons_of_mem _)
theorem Bq.set_dis(k:Int×Int)(n:Int):∀(kvs:Bq),kvs.Dis->(kvs.set k n).Dis
 |[],_=>by simp[Bq.set,Bq.Dis]|q::r,h=>by
  have b:=v5.1 h;simp[Bq.set];split
  next e=>exact v5.2 ⟨λa ha=>by have:=b.1 a ha;rwa[e]at this,b.2⟩
  .rename_i e;refine v5.2 ⟨λa ha=>?_,Bq.set_dis k n r b.2⟩
   grind [Bq.set_keys]
theorem lm(κ:List Fp)(p q:(Int×Int)×Int)(h:p.1≠q.1):Cl (Cl κ p) q=Cl (Cl κ q) p:=by
 obtain ⟨⟨a,b⟩,n⟩:=p;obtain⟨⟨c,d⟩,m⟩:=q;simp[Cl];by_cases e:0<=a/\0<=b
 .by_cases f:0<=c/\0<=d
  .simp[a6 e,a6 f];apply v6
   grind [Option.map_eq_map,Option.map_map,List.set_comm]
  .simp[ac f]
 .simp[ac e]
variable{kvs:Bq}
theorem Bq.dis_of(hd:kvs.Dis){x y:(Int×Int)×Int}(c:x∈kvs)(d:y∈kvs)(h:x.1=y.1):x=y:=by
 induction kvs with
 |nil=>cases c
 |cons q r i=>
  have e:=v5.1 hd;rcases v1.1 c with f|a<;>rcases v1.1 d with g|b
  .rw[f,g]
  .grind
  .grind
  .exact i e.2 a b
theorem X7{kvs l:Bq}(hd:kvs.Dis)(h:kvs.Perm l)(κ:List Fp):l.foldl Cl κ=kvs.foldl Cl κ:=by
 refine (h.foldl_eq' (λx a y b z=>?_) κ).symm
 grind [lm,Bq.dis_of]
variable{κ:List Fp}{r:Fp}{x:Int}
theorem eC{p:(Int×Int)×Int}(a:idx κ p.1.1=Y r)(b:idx r p.1.2=Y x):BR κ p.1.1 (BR r p.1.2 p.2)=Cl κ p:=by
 have c:=II a;have d:=II b;simp[Cl,a6 (And.intro c.1 d.1),BR];apply v6
 grind
def NE(κ η:List Fp):Prop:=κ.map v_=η.map v_
theorem aU(κ:List Fp)(p:(Int×Int)×Int):NE (Cl κ p) κ:=by
 simp [NE,Cl];split
 .apply v6
  grind
 .rfl
theorem NE.idx{κ η:List Fp}(h:NE κ η){a b:Int}(i:idx η a=Y r)(j:idx r b=Y x):∃c x',idx κ a=Y c/\idx c b=Y x':=by
 have f:=II i;have g:=II j;have d:(κ.map v_)[a.toNat]?=Y r.length:=by rw[h,v!,f.2.2];rfl
 rw [v!]at d;cases hv:κ[a.toNat]? with
 |none=>rw[hv]at d;cases d
 |some c=>
  rw [hv]at d;simp only[Option.map_some,q0]at d;have e:b.toNat<c.length:=by have:=(List.getElem?_eq_some_iff.1 g.2.2).1;omega
  exact ⟨c,c[b.toNat],by simp only[Go.Sf.idx,a6 f.1,hv],by simp only[Go.Sf.idx,a6 g.1];exact List.getElem?_eq_getElem e⟩
theorem Wk.refl(cs:List AS):Wk cs cs:=⟨rfl,λ_ d h=>⟨d,h,.inl rfl⟩⟩
theorem Wk.set(cs:List AS)(k:Nat):Wk cs (cs.set k ⟨false,.undef⟩):=by
 refine ⟨V,λi d h=>?_⟩
 grind
def Aat{α:Type}(f:α->K1):List α->K1
 |[]=>Y true|p::r=>(f p).bind λb=>(Aat f r).bind λc=>Y (b&&c)
theorem Yh{α:Type}{f:α->K1}:∀{l:List α}{c:Bool},Aat f l=Y c->(∀p∈l,∃b,f p=Y b/\(c=true->b=true))/\(c=false->∃p∈l,f p=Y false)
 |[],c,h=>by cases h;exact⟨λp a=>(by cases a),λe=>r?⟩
 |q::r,c,h=>by
  obtain ⟨b,hb,h⟩:=bind_some h;obtain⟨d,hd,h⟩:=bind_some h;obtain⟨i1,i2⟩:=Yh hd;cases h;refine⟨λp a=>?_,λe=>?_⟩
  .grind
  .cases b with
   |false=>exact⟨q,V,hb⟩|true=>
    grind
end Go.Sf
