/- The entries of a map, stored one by one into a list of lists: the order does not matter. -/
import Derived.Test.YtjgaphkmbjbdkaaGreatSfCode
import Derived.Test.YtjgaphkmbjbdkaaGreatSfStep
set_option linter.all false
namespace Go.Sf
def CR(V:List Fp)(p:(Int×Int)×Int):List Fp:=
 if 0<=p.1.1/\0<=p.1.2 then V.modify p.1.1.toNat (fun r=>r.set p.1.2.toNat p.2)else V
def BX.Dis(kvs:BX):Prop:=kvs.Pairwise fun a b=>a.1≠b.1
theorem BX.set_keys(k:Int×Int)(n:Int):∀(kvs:BX)(p:(Int×Int)×Int),p∈kvs.set k n->p.1=k\/p∈kvs
 |[],p,h=>by simp[BX.set]at h;subst h;exact .inl rfl|q::r,p,h=>by
  simp [BX.set]at h;split at h
  .grind
  .rcases List.mem_cons.1 h with rfl|h
   .exact .inr (by simp)
   .exact(BX.set_keys k n r p h).imp id (List.mem_cons_of_mem _)
theorem BX.set_dis(k:Int×Int)(n:Int):∀(kvs:BX),kvs.Dis->(kvs.set k n).Dis
 |[],_=>by simp[BX.set,BX.Dis]|q::r,h=>by
  have b:=List.pairwise_cons.1 h;simp[BX.set];split
  .rename_i e;exact List.pairwise_cons.2 ⟨fun a c=>by have:=b.1 a c;rwa[e]at this,b.2⟩
  .rename_i e;refine List.pairwise_cons.2 ⟨fun a c=>?_,BX.set_dis k n r b.2⟩
   grind [BX.set_keys]
theorem eo(V:List Fp)(p q:(Int×Int)×Int)(h:p.1≠q.1):CR (CR V p) q=CR (CR V q) p:=by
 obtain ⟨⟨a,b⟩,n⟩:=p;obtain⟨⟨c,d⟩,m⟩:=q;simp[CR];by_cases e:0<=a/\0<=b
 .by_cases f:0<=c/\0<=d
  .simp[a6 e,a6 f];apply List.ext_getElem?
   grind [Option.map_eq_map,Option.map_map,List.set_comm]
  .simp[ae f]
 .simp[ae e]
variable{kvs:BX}
theorem BX.dis_of(hd:kvs.Dis){x y:(Int×Int)×Int}(c:x∈kvs)(d:y∈kvs)(h:x.1=y.1):x=y:=by
 induction kvs with
 |nil=>cases c
 |cons q r i=>
  have e:=List.pairwise_cons.1 hd;rcases List.mem_cons.1 c with f|a<;>rcases List.mem_cons.1 d with g|b
  .rw[f,g]
  .grind
  .grind
  .exact i e.2 a b
theorem Vk{kvs l:BX}(hd:kvs.Dis)(h:kvs.Perm l)(V:List Fp):l.foldl CR V=kvs.foldl CR V:=by
 refine (h.foldl_eq' (fun x a y b z=>?_) V).symm
 grind [eo,BX.dis_of]
variable{V:List Fp}{r:Fp}{x:Int}
theorem Zt{p:(Int×Int)×Int}(a:idx V p.1.1=some r)(b:idx r p.1.2=some x):BN V p.1.1 (BN r p.1.2 p.2)=CR V p:=by
 have c:=G6 a;have d:=G6 b;simp[CR,a6 (And.intro c.1 d.1),BN];apply List.ext_getElem?
 grind
def Lz(V W:List Fp):Prop:=V.map List.length=W.map List.length
theorem Xc(V:List Fp)(p:(Int×Int)×Int):Lz (CR V p) V:=by
 simp [Lz,CR];split
 .apply List.ext_getElem?
  grind
 .rfl
theorem Lz.idx{V W:List Fp}(h:Lz V W){a b:Int}(i:idx W a=some r)(j:idx r b=some x):∃c x',idx V a=some c/\idx c b=some x':=by
 have f:=G6 i;have g:=G6 j;have d:(V.map List.length)[a.toNat]?=some r.length:=by rw[h,List.getElem?_map,f.2.2];rfl
 rw [List.getElem?_map]at d;cases hv:V[a.toNat]? with
 |none=>rw[hv]at d;cases d
 |some c=>
  rw [hv]at d;simp only[Option.map_some,sr]at d;have e:b.toNat<c.length:=by have:=(List.getElem?_eq_some_iff.1 g.2.2).1;omega
  exact ⟨c,c[b.toNat],by simp only[Go.Sf.idx,a6 f.1,hv],by simp only[Go.Sf.idx,a6 g.1];exact List.getElem?_eq_getElem e⟩
theorem Wk.refl(cs:List AS):Wk cs cs:=⟨rfl,fun _ d h=>⟨d,h,.inl rfl⟩⟩
theorem Wk.set(cs:List AS)(k:Nat):Wk cs (cs.set k ⟨false,.undef⟩):=by
 refine ⟨by simp,fun i d h=>?_⟩
 grind
def Aaq{α:Type}(f:α->K1):List α->K1
 |[]=>some true|p::r=>(f p).bind fun b=>(Aaq f r).bind fun c=>some (b&&c)
theorem WB{α:Type}{f:α->K1}:∀{l:List α}{c:Bool},Aaq f l=some c->(∀p∈l,∃b,f p=some b/\(c=true->b=true))/\(c=false->∃p∈l,f p=some false)
 |[],c,h=>by cases h;exact⟨fun p a=>(by cases a),fun e=>(by cases e)⟩
 |q::r,c,h=>by
  obtain ⟨b,g,h⟩:=bind_some h;obtain⟨d,hd,h⟩:=bind_some h;obtain⟨i,j⟩:=WB hd;cases h;refine⟨fun p a=>?_,fun e=>?_⟩
  .grind
  .cases b with
   |false=>exact⟨q,by simp,g⟩|true=>
    grind
end Go.Sf
