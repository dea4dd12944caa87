/- The entries of a map, stored one by one into a list of lists: the order does not matter. -/
import Derived.Test.YtbgedoajacpdbaaGreatDoorSfCode
import Derived.Test.YtbgedoajacpdbaaGreatDoorSfStep
set_option linter.all false
namespace Go.Sf
def CR(V:List Fp)(p:(Int×Int)×Int):List Fp:=
 if 0<=p.1.1/\0<=p.1.2 then V.modify p.1.1.toNat (fun r=>r.set p.1.2.toNat p.2)else V
def BD.Dis(kvs:BD):Prop:=kvs.Pairwise fun a b=>a.1≠b.1
theorem BD.set_keys(k:Int×Int)(n:Int):∀(kvs:BD)(p:(Int×Int)×Int),p∈kvs.set k n->p.1=k\/p∈kvs
 |[],p,h=>by simp[BD.set]at h;subst h;exact .inl rfl|q::r,p,h=>by
  simp [BD.set]at h;split at h
  .grind
  .rcases List.mem_cons.1 h with rfl|h
   .exact .inr (by simp)
   .exact(BD.set_keys k n r p h).imp id (List.mem_cons_of_mem _)
theorem BD.set_dis(k:Int×Int)(n:Int):∀(kvs:BD),kvs.Dis->(kvs.set k n).Dis
 |[],_=>by simp[BD.set,BD.Dis]|q::r,h=>by
  have b:=List.pairwise_cons.1 h;simp[BD.set];split
  .rename_i e;exact List.pairwise_cons.2 ⟨fun a c=>by have:=b.1 a c;rwa[e]at this,b.2⟩
  .rename_i e;refine List.pairwise_cons.2 ⟨fun a c=>?_,BD.set_dis k n r b.2⟩
   grind [BD.set_keys]
theorem aR(V:List Fp)(p q:(Int×Int)×Int)(h:p.1≠q.1):CR (CR V p) q=CR (CR V q) p:=by
 obtain ⟨⟨a,b⟩,n⟩:=p;obtain⟨⟨c,d⟩,m⟩:=q;simp[CR];by_cases e:0<=a/\0<=b
 .by_cases f:0<=c/\0<=d
  .simp[ae e,ae f];apply List.ext_getElem?
   grind [Option.map_eq_map,Option.map_map,List.set_comm]
  .simp[az f]
 .simp[az e]
variable{kvs:BD}
theorem BD.dis_of(hd:kvs.Dis){x y:(Int×Int)×Int}(c:x∈kvs)(d:y∈kvs)(h:x.1=y.1):x=y:=by
 induction kvs with
 |nil=>cases c
 |cons q r i=>
  have e:=List.pairwise_cons.1 hd;rcases List.mem_cons.1 c with f|a<;>rcases List.mem_cons.1 d with g|b
  .rw[f,g]
  .grind
  .grind
  .exact i e.2 a b
theorem UE{kvs l:BD}(hd:kvs.Dis)(h:kvs.Perm l)(V:List Fp):l.foldl CR V=kvs.foldl CR V:=by
 refine (h.foldl_eq' (fun x a y b z=>?_) V).symm
 grind [aR,BD.dis_of]
variable{V:List Fp}{r:Fp}{x:Int}
theorem XR{p:(Int×Int)×Int}(a:idx V p.1.1=some r)(b:idx r p.1.2=some x):BC V p.1.1 (BC r p.1.2 p.2)=CR V p:=by
 have c:=GF a;have d:=GF b;simp[CR,ae (And.intro c.1 d.1),BC];apply List.ext_getElem?
 grind
def LT(V W:List Fp):Prop:=V.map List.length=W.map List.length
theorem Va(V:List Fp)(p:(Int×Int)×Int):LT (CR V p) V:=by
 simp [LT,CR];split
 .apply List.ext_getElem?
  grind
 .rfl
theorem LT.idx{V W:List Fp}(h:LT V W){a b:Int}(i:idx W a=some r)(j:idx r b=some x):∃c x',idx V a=some c/\idx c b=some x':=by
 have f:=GF i;have g:=GF j;have d:(V.map List.length)[a.toNat]?=some r.length:=by rw[h,List.getElem?_map,f.2.2];rfl
 rw [List.getElem?_map]at d;cases hv:V[a.toNat]? with
 |none=>rw[hv]at d;cases d
 |some c=>
  rw [hv]at d;simp only[Option.map_some,x4]at d;have e:b.toNat<c.length:=by have:=(List.getElem?_eq_some_iff.1 g.2.2).1;omega
  exact ⟨c,c[b.toNat],by simp only[Go.Sf.idx,ae f.1,hv],by simp only[Go.Sf.idx,ae g.1];exact List.getElem?_eq_getElem e⟩
theorem Wk.refl(cs:List AQ):Wk cs cs:=⟨rfl,fun _ d h=>⟨d,h,.inl rfl⟩⟩
theorem Wk.set(cs:List AQ)(k:Nat):Wk cs (cs.set k ⟨false,.undef⟩):=by
 refine ⟨by simp,fun i d h=>?_⟩
 grind
def AaP{α:Type}(f:α->K1):List α->K1
 |[]=>some true|p::r=>(f p).bind fun b=>(AaP f r).bind fun c=>some (b&&c)
theorem Ud{α:Type}{f:α->K1}:∀{l:List α}{c:Bool},AaP f l=some c->(∀p∈l,∃b,f p=some b/\(c=true->b=true))/\(c=false->∃p∈l,f p=some false)
 |[],c,h=>by cases h;exact⟨fun p a=>(by cases a),fun e=>(by cases e)⟩
 |q::r,c,h=>by
  obtain ⟨b,g,h⟩:=bind_some h;obtain⟨d,hd,h⟩:=bind_some h;obtain⟨i,j⟩:=Ud hd;cases h;refine⟨fun p a=>?_,fun e=>?_⟩
  .grind
  .cases b with
   |false=>exact⟨q,by simp,g⟩|true=>
    grind
end Go.Sf
