/- The entries of a map, stored one by one into a list of lists: the order does not matter. -/
import Derived.Test.YtpagkickoiafkaaGreatSfCode
import Derived.Test.YtpagkickoiafkaaGreatSfStep
set_option linter.all false
open Option renaming some->Y
open List renaming mem_cons->v?,pairwise_cons->w_,ext_getElem?->w!,length->w?,getElem?_map->x_
namespace Go.Sf
def CJ(κ:List Fp)(p:(Int×Int)×Int):List Fp:=
 if 0<=p.1.1/\0<=p.1.2 then κ.modify p.1.1.toNat (λr=>r.set p.1.2.toNat p.2)else κ
def BZ.Dis(kvs:BZ):Prop:=kvs.Pairwise λa b=>a.1≠b.1
theorem BZ.set_keys(k:Int×Int)(n:Int):∀(kvs:BZ)(p:(Int×Int)×Int),p∈kvs.set k n->p.1=k\/p∈kvs
 |[],p,h=>by simp[BZ.set]at h;subst h;exact .inl rfl|q::r,p,h=>by
  simp [BZ.set]at h;split at h
  .grind
  .rcases v?.1 h with rfl|h
   .exact .inr V
   .exact(BZ.set_keys k n r p h).imp id (List.mem_cons_of_mem _)
theorem BZ.set_dis(k:Int×Int)(n:Int):∀(kvs:BZ),kvs.Dis->(kvs.set k n).Dis
 |[],_=>by simp[BZ.set,BZ.Dis]|q::r,h=>by
  have b:=w_.1 h;simp[BZ.set];split
  next e=>exact w_.2 ⟨λa c=>by have:=b.1 a c;rwa[e]at this,b.2⟩
  .rename_i e;refine w_.2 ⟨λa c=>?_,BZ.set_dis k n r b.2⟩
   grind [BZ.set_keys]
theorem iz(κ:List Fp)(p q:(Int×Int)×Int)(h:p.1≠q.1):CJ (CJ κ p) q=CJ (CJ κ q) p:=by
 obtain ⟨⟨a,b⟩,n⟩:=p;obtain⟨⟨c,d⟩,m⟩:=q;simp[CJ];by_cases e:0<=a/\0<=b
 .by_cases f:0<=c/\0<=d
  .simp[QQ e,QQ f];apply w!
   grind [Option.map_eq_map,Option.map_map,List.set_comm]
  .simp[aE f]
 .simp[aE e]
variable{kvs:BZ}
theorem BZ.dis_of(hd:kvs.Dis){x y:(Int×Int)×Int}(c:x∈kvs)(d:y∈kvs)(h:x.1=y.1):x=y:=by
 induction kvs with
 |nil=>cases c
 |cons q r i=>
  have e:=w_.1 hd;rcases v?.1 c with f|a<;>rcases v?.1 d with g|b
  .rw[f,g]
  .grind
  .grind
  .exact i e.2 a b
theorem XQ{kvs l:BZ}(hd:kvs.Dis)(h:kvs.Perm l)(κ:List Fp):l.foldl CJ κ=kvs.foldl CJ κ:=by
 refine (h.foldl_eq' (λx a y b z=>?_) κ).symm
 grind [iz,BZ.dis_of]
variable{κ:List Fp}{r:Fp}{x:Int}
theorem bn{p:(Int×Int)×Int}(a:idx κ p.1.1=Y r)(b:idx r p.1.2=Y x):BM κ p.1.1 (BM r p.1.2 p.2)=CJ κ p:=by
 have c:=F2 a;have d:=F2 b;simp[CJ,QQ (And.intro c.1 d.1),BM];apply w!
 grind
def Lk(κ η:List Fp):Prop:=κ.map w?=η.map w?
theorem ZO(κ:List Fp)(p:(Int×Int)×Int):Lk (CJ κ p) κ:=by
 simp [Lk,CJ];split
 .apply w!
  grind
 .rfl
theorem Lk.idx{κ η:List Fp}(h:Lk κ η){a b:Int}(i:idx η a=Y r)(j:idx r b=Y x):∃c x',idx κ a=Y c/\idx c b=Y x':=by
 have f:=F2 i;have g:=F2 j;have d:(κ.map w?)[a.toNat]?=Y r.length:=by rw[h,x_,f.2.2];rfl
 rw [x_]at d;cases hv:κ[a.toNat]? with
 |none=>rw[hv]at d;cases d
 |some c=>
  rw [hv]at d;simp only[Option.map_some,kx]at d;have e:b.toNat<c.length:=by have:=(List.getElem?_eq_some_iff.1 g.2.2).1;omega
  exact ⟨c,c[b.toNat],by simp only[Go.Sf.idx,QQ f.1,hv],by simp only[Go.Sf.idx,QQ g.1];exact List.getElem?_eq_getElem e⟩
theorem Wk.refl(cs:List AQ):Wk cs cs:=⟨rfl,λ_ d h=>⟨d,h,.inl rfl⟩⟩
theorem Wk.set(cs:List AQ)(k:Nat):Wk cs (cs.set k ⟨false,.undef⟩):=by
 refine ⟨V,λi d h=>?_⟩
 grind
def Ta{α:Type}(f:α->I1):List α->I1
 |[]=>Y true|p::r=>(f p).bind λb=>(Ta f r).bind λc=>Y (b&&c)
theorem Xu{α:Type}{f:α->I1}:∀{l:List α}{c:Bool},Ta f l=Y c->(∀p∈l,∃b,f p=Y b/\(c=true->b=true))/\(c=false->∃p∈l,f p=Y false)
 |[],c,h=>by cases h;exact⟨λp a=>(by cases a),λe=>r!⟩
 |q::r,c,h=>by
  obtain ⟨b,g,h⟩:=bind_some h;obtain⟨d,hd,h⟩:=bind_some h;obtain⟨i,j⟩:=Xu hd;cases h;refine⟨λp a=>?_,λe=>?_⟩
  .grind
  .cases b with
   |false=>exact⟨q,V,g⟩|true=>
    grind
end Go.Sf
