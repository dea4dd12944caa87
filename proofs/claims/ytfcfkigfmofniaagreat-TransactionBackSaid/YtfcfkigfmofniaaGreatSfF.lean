/- The entries of a map, stored one by one into a list of lists: the order does not matter. -/
import Derived.Test.YtfcfkigfmofniaaGreatSfCode
import Derived.Test.YtfcfkigfmofniaaGreatSfStep
set_option linter.all false
open Option renaming some->Y
open List renaming mem_cons->u!,pairwise_cons->u?,ext_getElem?->v1,length->v5,getElem?_map->v6
namespace Go.Sf
def CZ(κ:List Fp)(p:(Int×Int)×Int):List Fp:=
 if 0<=p.1.1/\0<=p.1.2 then κ.modify p.1.1.toNat (λr=>r.set p.1.2.toNat p.2)else κ
def BM.Dis(kvs:BM):Prop:=kvs.Pairwise λa b=>a.1≠b.1
theorem BM.set_keys(k:Int×Int)(n:Int):∀(kvs:BM)(p:(Int×Int)×Int),p∈kvs.set k n->p.1=k\/p∈kvs
 |[],p,h=>by simp[BM.set]at h;subst h;exact .inl rfl|q::r,p,h=>by
  simp [BM.set]at h;split at h
  .grind
  .rcases u!.1 h with rfl|h
   .exact .inr V
   .exact(BM.set_keys k n r p h).imp id (List.mem_cons_of_mem _)
theorem BM.set_dis(k:Int×Int)(n:Int):∀(kvs:BM),kvs.Dis->(kvs.set k n).Dis
 |[],_=>by simp[BM.set,BM.Dis]|q::r,h=>by
  have b:=u?.1 h;simp[BM.set];split
  next e=>exact u?.2 ⟨λa c=>by have:=b.1 a c;rwa[e]at this,b.2⟩
  .rename_i e;refine u?.2 ⟨λa c=>?_,BM.set_dis k n r b.2⟩
   grind [BM.set_keys]
theorem eh(κ:List Fp)(p q:(Int×Int)×Int)(h:p.1≠q.1):CZ (CZ κ p) q=CZ (CZ κ q) p:=by
 obtain ⟨⟨a,b⟩,n⟩:=p;obtain⟨⟨c,d⟩,m⟩:=q;simp[CZ];by_cases e:0<=a/\0<=b
 .by_cases f:0<=c/\0<=d
  .simp[ae e,ae f];apply v1
   grind [Option.map_eq_map,Option.map_map,List.set_comm]
  .simp[az f]
 .simp[az e]
variable{kvs:BM}
theorem BM.dis_of(hd:kvs.Dis){x y:(Int×Int)×Int}(c:x∈kvs)(d:y∈kvs)(h:x.1=y.1):x=y:=by
 induction kvs with
 |nil=>cases c
 |cons q r i=>
  have e:=u?.1 hd;rcases u!.1 c with f|a<;>rcases u!.1 d with g|b
  .rw[f,g]
  .grind
  .grind
  .exact i e.2 a b
theorem WU{kvs l:BM}(hd:kvs.Dis)(h:kvs.Perm l)(κ:List Fp):l.foldl CZ κ=kvs.foldl CZ κ:=by
 refine (h.foldl_eq' (λx a y b z=>?_) κ).symm
 grind [eh,BM.dis_of]
variable{κ:List Fp}{r:Fp}{x:Int}
theorem Z9{p:(Int×Int)×Int}(a:idx κ p.1.1=Y r)(b:idx r p.1.2=Y x):Av κ p.1.1 (Av r p.1.2 p.2)=CZ κ p:=by
 have c:=Gd a;have d:=Gd b;simp[CZ,ae (And.intro c.1 d.1),Av];apply v1
 grind
def LV(κ η:List Fp):Prop:=κ.map v5=η.map v5
theorem YF(κ:List Fp)(p:(Int×Int)×Int):LV (CZ κ p) κ:=by
 simp [LV,CZ];split
 .apply v1
  grind
 .rfl
theorem LV.idx{κ η:List Fp}(h:LV κ η){a b:Int}(i:idx η a=Y r)(j:idx r b=Y x):∃c x',idx κ a=Y c/\idx c b=Y x':=by
 have f:=Gd i;have g:=Gd j;have d:(κ.map v5)[a.toNat]?=Y r.length:=by rw[h,v6,f.2.2];rfl
 rw [v6]at d;cases hv:κ[a.toNat]? with
 |none=>rw[hv]at d;cases d
 |some c=>
  rw [hv]at d;simp only[Option.map_some,t5]at d;have e:b.toNat<c.length:=by have:=(List.getElem?_eq_some_iff.1 g.2.2).1;omega
  exact ⟨c,c[b.toNat],by simp only[Go.Sf.idx,ae f.1,hv],by simp only[Go.Sf.idx,ae g.1];exact List.getElem?_eq_getElem e⟩
theorem Wk.refl(cs:List AR):Wk cs cs:=⟨rfl,λ_ d h=>⟨d,h,.inl rfl⟩⟩
theorem Wk.set(cs:List AR)(k:Nat):Wk cs (cs.set k ⟨false,.undef⟩):=by
 refine ⟨V,λi d h=>?_⟩
 grind
def zB{α:Type}(f:α->K1):List α->K1
 |[]=>Y true|p::r=>(f p).bind λb=>(zB f r).bind λc=>Y (b&&c)
theorem Wu{α:Type}{f:α->K1}:∀{l:List α}{c:Bool},zB f l=Y c->(∀p∈l,∃b,f p=Y b/\(c=true->b=true))/\(c=false->∃p∈l,f p=Y false)
 |[],c,h=>by cases h;exact⟨λp a=>(by cases a),λe=>o_⟩
 |q::r,c,h=>by
  obtain ⟨b,g,h⟩:=bind_some h;obtain⟨d,hd,h⟩:=bind_some h;obtain⟨i,j⟩:=Wu hd;cases h;refine⟨λp a=>?_,λe=>?_⟩
  .grind
  .cases b with
   |false=>exact⟨q,V,g⟩|true=>
    grind
end Go.Sf
