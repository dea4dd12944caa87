/- The entries of a map, stored one by one into a list of lists: the order does not matter. -/
import Derived.Test.YthcncnllajfkfaaGreatSfCode
import Derived.Test.YthcncnllajfkfaaGreatSfStep
set_option linter.all false
open Option renaming some->Y
open List renaming mem_cons->v?,pairwise_cons->w_,ext_getElem?->w!,length->w?,getElem?_map->x_
namespace Go.Sf
def Cc(κ:List Fp)(p:(Int×Int)×Int):List Fp:=
 if 0<=p.1.1/\0<=p.1.2 then κ.modify p.1.1.toNat (λr=>r.set p.1.2.toNat p.2)else κ
def Bi.Dis(kvs:Bi):Prop:=kvs.Pairwise λa b=>a.1≠b.1
theorem Bi.set_keys(k:Int×Int)(n:Int):∀(kvs:Bi)(p:(Int×Int)×Int),p∈kvs.set k n->p.1=k\/p∈kvs
 |[],p,h=>by simp[Bi.set]at h;subst h;exact .inl rfl|q::r,p,h=>by
  simp [Bi.set]at h;split at h
  .grind
  .rcases v?.1 h with rfl|h
   .exact .inr V
   .exact(Bi.set_keys k n r p h).imp id (List.mem_cons_of_mem _)
theorem Bi.set_dis(k:Int×Int)(n:Int):∀(kvs:Bi),kvs.Dis->(kvs.set k n).Dis
 |[],_=>by simp[Bi.set,Bi.Dis]|q::r,h=>by
  have b:=w_.1 h;simp[Bi.set];split
  next e=>exact w_.2 ⟨λa ha=>by have:=b.1 a ha;rwa[e]at this,b.2⟩
  .rename_i e;refine w_.2 ⟨λa ha=>?_,Bi.set_dis k n r b.2⟩
   grind [Bi.set_keys]
theorem kR(κ:List Fp)(p q:(Int×Int)×Int)(h:p.1≠q.1):Cc (Cc κ p) q=Cc (Cc κ q) p:=by
 obtain ⟨⟨a,b⟩,n⟩:=p;obtain⟨⟨c,d⟩,m⟩:=q;simp[Cc];by_cases e:0<=a/\0<=b
 .by_cases f:0<=c/\0<=d
  .simp[ac e,ac f];apply w!
   grind [Option.map_eq_map,Option.map_map,List.set_comm]
  .simp[ae f]
 .simp[ae e]
variable{kvs:Bi}
theorem Bi.dis_of(hd:kvs.Dis){x y:(Int×Int)×Int}(c:x∈kvs)(d:y∈kvs)(h:x.1=y.1):x=y:=by
 induction kvs with
 |nil=>cases c
 |cons q r i=>
  have e:=w_.1 hd;rcases v?.1 c with f|a<;>rcases v?.1 d with g|b
  .rw[f,g]
  .grind
  .grind
  .exact i e.2 a b
theorem YD{kvs l:Bi}(hd:kvs.Dis)(h:kvs.Perm l)(κ:List Fp):l.foldl Cc κ=kvs.foldl Cc κ:=by
 refine (h.foldl_eq' (λx a y b z=>?_) κ).symm
 grind [kR,Bi.dis_of]
variable{κ:List Fp}{r:Fp}{x:Int}
theorem dm{p:(Int×Int)×Int}(a:idx κ p.1.1=Y r)(b:idx r p.1.2=Y x):BF κ p.1.1 (BF r p.1.2 p.2)=Cc κ p:=by
 have c:=Hz a;have d:=Hz b;simp[Cc,ac (And.intro c.1 d.1),BF];apply w!
 grind
def M5(κ η:List Fp):Prop:=κ.map w?=η.map w?
theorem Z8(κ:List Fp)(p:(Int×Int)×Int):M5 (Cc κ p) κ:=by
 simp [M5,Cc];split
 .apply w!
  grind
 .rfl
theorem M5.idx{κ η:List Fp}(h:M5 κ η){a b:Int}(i:idx η a=Y r)(j:idx r b=Y x):∃c x',idx κ a=Y c/\idx c b=Y x':=by
 have f:=Hz i;have g:=Hz j;have d:(κ.map w?)[a.toNat]?=Y r.length:=by rw[h,x_,f.2.2];rfl
 rw [x_]at d;cases hv:κ[a.toNat]? with
 |none=>rw[hv]at d;cases d
 |some c=>
  rw [hv]at d;simp only[Option.map_some,tc]at d;have e:b.toNat<c.length:=by have:=(List.getElem?_eq_some_iff.1 g.2.2).1;omega
  exact ⟨c,c[b.toNat],by simp only[Go.Sf.idx,ac f.1,hv],by simp only[Go.Sf.idx,ac g.1];exact List.getElem?_eq_getElem e⟩
theorem Wk.refl(cs:List AR):Wk cs cs:=⟨rfl,λ_ d h=>⟨d,h,.inl rfl⟩⟩
theorem Wk.set(cs:List AR)(k:Nat):Wk cs (cs.set k ⟨false,.undef⟩):=by
 refine ⟨V,λi d h=>?_⟩
 grind
def AaH{α:Type}(f:α->K1):List α->K1
 |[]=>Y true|p::r=>(f p).bind λb=>(AaH f r).bind λc=>Y (b&&c)
theorem Yi{α:Type}{f:α->K1}:∀{l:List α}{c:Bool},AaH f l=Y c->(∀p∈l,∃b,f p=Y b/\(c=true->b=true))/\(c=false->∃p∈l,f p=Y false)
 |[],c,h=>by cases h;exact⟨λp a=>(by cases a),λe=>q_⟩
 |q::r,c,h=>by
  obtain ⟨b,hb,h⟩:=bind_some h;obtain⟨d,hd,h⟩:=bind_some h;obtain⟨i1,i2⟩:=Yi hd;cases h;refine⟨λp a=>?_,λe=>?_⟩
  .grind
  .cases b with
   |false=>exact⟨q,V,hb⟩|true=>
    grind
end Go.Sf
