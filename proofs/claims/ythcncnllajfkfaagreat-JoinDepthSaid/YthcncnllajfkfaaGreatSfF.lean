/- The entries of a map, stored one by one into a list of lists: the order does not matter. -/
import Derived.Test.YthcncnllajfkfaaGreatSfCode
import Derived.Test.YthcncnllajfkfaaGreatSfStep
set_option linter.all false
open Option renaming some->Y
open List renaming mem_cons->w_,pairwise_cons->w!,ext_getElem?->w?,length->x_,getElem?_map->x!
namespace Go.Sf
def Cd(κ:List Fp)(p:(Int×Int)×Int):List Fp:=
 if 0<=p.1.1/\0<=p.1.2 then κ.modify p.1.1.toNat (λr=>r.set p.1.2.toNat p.2)else κ
def Bk.Dis(kvs:Bk):Prop:=kvs.Pairwise λa b=>a.1≠b.1
theorem Bk.set_keys(k:Int×Int)(n:Int):∀(kvs:Bk)(p:(Int×Int)×Int),p∈kvs.set k n->p.1=k\/p∈kvs
 |[],p,h=>by simp[Bk.set]at h;subst h;exact .inl rfl|q::r,p,h=>by
  simp [Bk.set]at h;split at h
  .grind
  .rcases w_.1 h with rfl|h
   .exact .inr V
   .exact(Bk.set_keys k n r p h).imp id (List.mem_cons_of_mem _)
theorem Bk.set_dis(k:Int×Int)(n:Int):∀(kvs:Bk),kvs.Dis->(kvs.set k n).Dis
 |[],_=>by simp[Bk.set,Bk.Dis]|q::r,h=>by
  have b:=w!.1 h;simp[Bk.set];split
  next e=>exact w!.2 ⟨λa ha=>by have:=b.1 a ha;rwa[e]at this,b.2⟩
  .rename_i e;refine w!.2 ⟨λa ha=>?_,Bk.set_dis k n r b.2⟩
   grind [Bk.set_keys]
theorem kX(κ:List Fp)(p q:(Int×Int)×Int)(h:p.1≠q.1):Cd (Cd κ p) q=Cd (Cd κ q) p:=by
 obtain ⟨⟨a,b⟩,n⟩:=p;obtain⟨⟨c,d⟩,m⟩:=q;simp[Cd];by_cases e:0<=a/\0<=b
 .by_cases f:0<=c/\0<=d
  .simp[ac e,ac f];apply w?
   grind [Option.map_eq_map,Option.map_map,List.set_comm]
  .simp[ae f]
 .simp[ae e]
variable{kvs:Bk}
theorem Bk.dis_of(hd:kvs.Dis){x y:(Int×Int)×Int}(c:x∈kvs)(d:y∈kvs)(h:x.1=y.1):x=y:=by
 induction kvs with
 |nil=>cases c
 |cons q r i=>
  have e:=w!.1 hd;rcases w_.1 c with f|a<;>rcases w_.1 d with g|b
  .rw[f,g]
  .grind
  .grind
  .exact i e.2 a b
theorem YG{kvs l:Bk}(hd:kvs.Dis)(h:kvs.Perm l)(κ:List Fp):l.foldl Cd κ=kvs.foldl Cd κ:=by
 refine (h.foldl_eq' (λx a y b z=>?_) κ).symm
 grind [kX,Bk.dis_of]
variable{κ:List Fp}{r:Fp}{x:Int}
theorem dw{p:(Int×Int)×Int}(a:idx κ p.1.1=Y r)(b:idx r p.1.2=Y x):BE κ p.1.1 (BE r p.1.2 p.2)=Cd κ p:=by
 have c:=Hw a;have d:=Hw b;simp[Cd,ac (And.intro c.1 d.1),BE];apply w?
 grind
def NB(κ η:List Fp):Prop:=κ.map x_=η.map x_
theorem aD(κ:List Fp)(p:(Int×Int)×Int):NB (Cd κ p) κ:=by
 simp [NB,Cd];split
 .apply w?
  grind
 .rfl
theorem NB.idx{κ η:List Fp}(h:NB κ η){a b:Int}(i:idx η a=Y r)(j:idx r b=Y x):∃c x',idx κ a=Y c/\idx c b=Y x':=by
 have f:=Hw i;have g:=Hw j;have d:(κ.map x_)[a.toNat]?=Y r.length:=by rw[h,x!,f.2.2];rfl
 rw [x!]at d;cases hv:κ[a.toNat]? with
 |none=>rw[hv]at d;cases d
 |some c=>
  rw [hv]at d;simp only[Option.map_some,tl]at d;have e:b.toNat<c.length:=by have:=(List.getElem?_eq_some_iff.1 g.2.2).1;omega
  exact ⟨c,c[b.toNat],by simp only[Go.Sf.idx,ac f.1,hv],by simp only[Go.Sf.idx,ac g.1];exact List.getElem?_eq_getElem e⟩
theorem Wk.refl(cs:List AR):Wk cs cs:=⟨rfl,λ_ d h=>⟨d,h,.inl rfl⟩⟩
theorem Wk.set(cs:List AR)(k:Nat):Wk cs (cs.set k ⟨false,.undef⟩):=by
 refine ⟨V,λi d h=>?_⟩
 grind
def AaH{α:Type}(f:α->K1):List α->K1
 |[]=>Y true|p::r=>(f p).bind λb=>(AaH f r).bind λc=>Y (b&&c)
theorem Yj{α:Type}{f:α->K1}:∀{l:List α}{c:Bool},AaH f l=Y c->(∀p∈l,∃b,f p=Y b/\(c=true->b=true))/\(c=false->∃p∈l,f p=Y false)
 |[],c,h=>by cases h;exact⟨λp a=>(by cases a),λe=>q!⟩
 |q::r,c,h=>by
  obtain ⟨b,hb,h⟩:=bind_some h;obtain⟨d,hd,h⟩:=bind_some h;obtain⟨i1,i2⟩:=Yj hd;cases h;refine⟨λp a=>?_,λe=>?_⟩
  .grind
  .cases b with
   |false=>exact⟨q,V,hb⟩|true=>
    grind
end Go.Sf
