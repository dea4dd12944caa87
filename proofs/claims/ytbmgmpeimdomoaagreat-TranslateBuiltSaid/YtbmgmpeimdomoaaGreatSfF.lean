/- The entries of a map, stored one by one into a list of lists: the order does not matter. -/
import Derived.Test.YtbmgmpeimdomoaaGreatSfCode
import Derived.Test.YtbmgmpeimdomoaaGreatSfStep
set_option linter.all false
open Option renaming some->Y
open List renaming mem_cons->w!,pairwise_cons->w?,ext_getElem?->x_,length->x!,getElem?_map->x?
namespace Go.Sf
def Cl(κ:List Fp)(p:(Int×Int)×Int):List Fp:=
 if 0<=p.1.1/\0<=p.1.2 then κ.modify p.1.1.toNat (λr=>r.set p.1.2.toNat p.2)else κ
def BW.Dis(kvs:BW):Prop:=kvs.Pairwise λa b=>a.1≠b.1
theorem BW.set_keys(k:Int×Int)(n:Int):∀(kvs:BW)(p:(Int×Int)×Int),p∈kvs.set k n->p.1=k\/p∈kvs
 |[],p,h=>by simp[BW.set]at h;subst h;exact .inl rfl|q::r,p,h=>by
  simp [BW.set]at h;split at h
  .grind
  .rcases w!.1 h with rfl|h
   .exact .inr V
   .exact(BW.set_keys k n r p h).imp id (List.mem_cons_of_mem _)
theorem BW.set_dis(k:Int×Int)(n:Int):∀(kvs:BW),kvs.Dis->(kvs.set k n).Dis
 |[],_=>by simp[BW.set,BW.Dis]|q::r,h=>by
  have b:=w?.1 h;simp[BW.set];split
  next e=>exact w?.2 ⟨λa c=>by have:=b.1 a c;rwa[e]at this,b.2⟩
  .rename_i e;refine w?.2 ⟨λa c=>?_,BW.set_dis k n r b.2⟩
   grind [BW.set_keys]
theorem ib(κ:List Fp)(p q:(Int×Int)×Int)(h:p.1≠q.1):Cl (Cl κ p) q=Cl (Cl κ q) p:=by
 obtain ⟨⟨a,b⟩,n⟩:=p;obtain⟨⟨c,d⟩,m⟩:=q;simp[Cl];by_cases e:0<=a/\0<=b
 .by_cases f:0<=c/\0<=d
  .simp[Ne e,Ne f];apply x_
   grind [Option.map_eq_map,Option.map_map,List.set_comm]
  .simp[QQ f]
 .simp[QQ e]
variable{kvs:BW}
theorem BW.dis_of(hd:kvs.Dis){x y:(Int×Int)×Int}(c:x∈kvs)(d:y∈kvs)(h:x.1=y.1):x=y:=by
 induction kvs with
 |nil=>cases c
 |cons q r i=>
  have e:=w?.1 hd;rcases w!.1 c with f|a<;>rcases w!.1 d with g|b
  .rw[f,g]
  .grind
  .grind
  .exact i e.2 a b
theorem Xd{kvs l:BW}(hd:kvs.Dis)(h:kvs.Perm l)(κ:List Fp):l.foldl Cl κ=kvs.foldl Cl κ:=by
 refine (h.foldl_eq' (λx a y b z=>?_) κ).symm
 grind [ib,BW.dis_of]
variable{κ:List Fp}{r:Fp}{x:Int}
theorem bv{p:(Int×Int)×Int}(a:idx κ p.1.1=Y r)(b:idx r p.1.2=Y x):BB κ p.1.1 (BB r p.1.2 p.2)=Cl κ p:=by
 have c:=GY a;have d:=GY b;simp[Cl,Ne (And.intro c.1 d.1),BB];apply x_
 grind
def Nj(κ η:List Fp):Prop:=κ.map x!=η.map x!
theorem ZK(κ:List Fp)(p:(Int×Int)×Int):Nj (Cl κ p) κ:=by
 simp [Nj,Cl];split
 .apply x_
  grind
 .rfl
theorem Nj.idx{κ η:List Fp}(h:Nj κ η){a b:Int}(i:idx η a=Y r)(j:idx r b=Y x):∃c x',idx κ a=Y c/\idx c b=Y x':=by
 have f:=GY i;have g:=GY j;have d:(κ.map x!)[a.toNat]?=Y r.length:=by rw[h,x?,f.2.2];rfl
 rw [x?]at d;cases hv:κ[a.toNat]? with
 |none=>rw[hv]at d;cases d
 |some c=>
  rw [hv]at d;simp only[Option.map_some,nm]at d;have e:b.toNat<c.length:=by have:=(List.getElem?_eq_some_iff.1 g.2.2).1;omega
  exact ⟨c,c[b.toNat],by simp only[Go.Sf.idx,Ne f.1,hv],by simp only[Go.Sf.idx,Ne g.1];exact List.getElem?_eq_getElem e⟩
theorem Wk.refl(cs:List AO):Wk cs cs:=⟨rfl,λ_ d h=>⟨d,h,.inl rfl⟩⟩
theorem Wk.set(cs:List AO)(k:Nat):Wk cs (cs.set k ⟨false,.undef⟩):=by
 refine ⟨V,λi d h=>?_⟩
 grind
def Aaz{α:Type}(f:α->I1):List α->I1
 |[]=>Y true|p::r=>(f p).bind λb=>(Aaz f r).bind λc=>Y (b&&c)
theorem X7{α:Type}{f:α->I1}:∀{l:List α}{c:Bool},Aaz f l=Y c->(∀p∈l,∃b,f p=Y b/\(c=true->b=true))/\(c=false->∃p∈l,f p=Y false)
 |[],c,h=>by cases h;exact⟨λp a=>(by cases a),λe=>m?⟩
 |q::r,c,h=>by
  obtain ⟨b,g,h⟩:=bind_some h;obtain⟨d,hd,h⟩:=bind_some h;obtain⟨i,j⟩:=X7 hd;cases h;refine⟨λp a=>?_,λe=>?_⟩
  .grind
  .cases b with
   |false=>exact⟨q,V,g⟩|true=>
    grind
end Go.Sf
