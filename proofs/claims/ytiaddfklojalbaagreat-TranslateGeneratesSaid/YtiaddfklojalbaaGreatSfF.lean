/- The entries of a map, stored one by one into a list of lists: the order does not matter. -/
import Derived.Test.YtiaddfklojalbaaGreatSfCode
import Derived.Test.YtiaddfklojalbaaGreatSfStep
set_option linter.all false
open Option renaming some->Y
open List renaming mem_cons->w?,pairwise_cons->x_,ext_getElem?->x!,length->x?,getElem?_map->y_
namespace Go.Sf
def C8(κ:List Fp)(p:(Int×Int)×Int):List Fp:=
 if 0<=p.1.1/\0<=p.1.2 then κ.modify p.1.1.toNat (λr=>r.set p.1.2.toNat p.2)else κ
def Bh.Dis(kvs:Bh):Prop:=kvs.Pairwise λa b=>a.1≠b.1
theorem Bh.set_keys(k:Int×Int)(n:Int):∀(kvs:Bh)(p:(Int×Int)×Int),p∈kvs.set k n->p.1=k\/p∈kvs
 |[],p,h=>by simp[Bh.set]at h;subst h;exact .inl rfl|q::r,p,h=>by
  simp [Bh.set]at h;split at h
  .grind
  .rcases w?.1 h with rfl|h
   .exact .inr V
   .exact(Bh.set_keys k n r p h).imp id (List.mem_cons_of_mem _)
theorem Bh.set_dis(k:Int×Int)(n:Int):∀(kvs:Bh),kvs.Dis->(kvs.set k n).Dis
 |[],_=>by simp[Bh.set,Bh.Dis]|q::r,h=>by
  have b:=x_.1 h;simp[Bh.set];split
  next e=>exact x_.2 ⟨λa c=>by have:=b.1 a c;rwa[e]at this,b.2⟩
  .rename_i e;refine x_.2 ⟨λa c=>?_,Bh.set_dis k n r b.2⟩
   grind [Bh.set_keys]
theorem ig(κ:List Fp)(p q:(Int×Int)×Int)(h:p.1≠q.1):C8 (C8 κ p) q=C8 (C8 κ q) p:=by
 obtain ⟨⟨a,b⟩,n⟩:=p;obtain⟨⟨c,d⟩,m⟩:=q;simp[C8];by_cases e:0<=a/\0<=b
 .by_cases f:0<=c/\0<=d
  .simp[aE e,aE f];apply x!
   grind [Option.map_eq_map,Option.map_map,List.set_comm]
  .simp[aN f]
 .simp[aN e]
variable{kvs:Bh}
theorem Bh.dis_of(hd:kvs.Dis){x y:(Int×Int)×Int}(c:x∈kvs)(d:y∈kvs)(h:x.1=y.1):x=y:=by
 induction kvs with
 |nil=>cases c
 |cons q r i=>
  have e:=x_.1 hd;rcases w?.1 c with f|a<;>rcases w?.1 d with g|b
  .rw[f,g]
  .grind
  .grind
  .exact i e.2 a b
theorem Xf{kvs l:Bh}(hd:kvs.Dis)(h:kvs.Perm l)(κ:List Fp):l.foldl C8 κ=kvs.foldl C8 κ:=by
 refine (h.foldl_eq' (λx a y b z=>?_) κ).symm
 grind [ig,Bh.dis_of]
variable{κ:List Fp}{r:Fp}{x:Int}
theorem na{p:(Int×Int)×Int}(a:idx κ p.1.1=Y r)(b:idx r p.1.2=Y x):BN κ p.1.1 (BN r p.1.2 p.2)=C8 κ p:=by
 have c:=Ga a;have d:=Ga b;simp[C8,aE (And.intro c.1 d.1),BN];apply x!
 grind
def OF(κ η:List Fp):Prop:=κ.map x?=η.map x?
theorem kh(κ:List Fp)(p:(Int×Int)×Int):OF (C8 κ p) κ:=by
 simp [OF,C8];split
 .apply x!
  grind
 .rfl
theorem OF.idx{κ η:List Fp}(h:OF κ η){a b:Int}(i:idx η a=Y r)(j:idx r b=Y x):∃c x',idx κ a=Y c/\idx c b=Y x':=by
 have f:=Ga i;have g:=Ga j;have d:(κ.map x?)[a.toNat]?=Y r.length:=by rw[h,y_,f.2.2];rfl
 rw [y_]at d;cases hv:κ[a.toNat]? with
 |none=>rw[hv]at d;cases d
 |some c=>
  rw [hv]at d;simp only[Option.map_some,o4]at d;have e:b.toNat<c.length:=by have:=(List.getElem?_eq_some_iff.1 g.2.2).1;omega
  exact ⟨c,c[b.toNat],by simp only[Go.Sf.idx,aE f.1,hv],by simp only[Go.Sf.idx,aE g.1];exact List.getElem?_eq_getElem e⟩
theorem Wk.refl(cs:List AQ):Wk cs cs:=⟨rfl,λ_ d h=>⟨d,h,.inl rfl⟩⟩
theorem Wk.set(cs:List AQ)(k:Nat):Wk cs (cs.set k ⟨false,.undef⟩):=by
 refine ⟨V,λi d h=>?_⟩
 grind
def AaA{α:Type}(f:α->K1):List α->K1
 |[]=>Y true|p::r=>(f p).bind λb=>(AaA f r).bind λc=>Y (b&&c)
theorem X5{α:Type}{f:α->K1}:∀{l:List α}{c:Bool},AaA f l=Y c->(∀p∈l,∃b,f p=Y b/\(c=true->b=true))/\(c=false->∃p∈l,f p=Y false)
 |[],c,h=>by cases h;exact⟨λp a=>(by cases a),λe=>l'⟩
 |q::r,c,h=>by
  obtain ⟨b,g,h⟩:=bind_some h;obtain⟨d,hd,h⟩:=bind_some h;obtain⟨i,j⟩:=X5 hd;cases h;refine⟨λp a=>?_,λe=>?_⟩
  .grind
  .cases b with
   |false=>exact⟨q,V,g⟩|true=>
    grind
end Go.Sf
