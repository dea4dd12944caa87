/- The entries of a map, stored one by one into a list of lists: the order does not matter. -/
import Derived.Test.YtmbomnkcdolalaaGreatSfCode
import Derived.Test.YtmbomnkcdolalaaGreatSfStep
set_option linter.all false
namespace Go.Sf
def CS(V:List Fp)(p:(Int×Int)×Int):List Fp:=
 if 0<=p.1.1/\0<=p.1.2 then V.modify p.1.1.toNat (fun r=>r.set p.1.2.toNat p.2)else V
def BE.Dis(kvs:BE):Prop:=kvs.Pairwise fun a b=>a.1≠b.1
theorem BE.set_keys(k:Int×Int)(n:Int):∀(kvs:BE)(p:(Int×Int)×Int),p∈kvs.set k n->p.1=k\/p∈kvs
 |[],p,h=>by simp only[BE.set,List.mem_singleton]at h;subst h;exact .inl rfl|q::r,p,h=>by
  simp only[BE.set]at h;split at h
  .grind
  .rcases List.mem_cons.1 h with rfl|h
   .exact .inr (by simp)
   .exact(BE.set_keys k n r p h).imp id (List.mem_cons_of_mem _)
theorem BE.set_dis(k:Int×Int)(n:Int):∀(kvs:BE),kvs.Dis->(kvs.set k n).Dis
 |[],_=>by simp[BE.set,BE.Dis]|q::r,h=>by
  have b:=List.pairwise_cons.1 h;simp only[BE.set];split
  .rename_i e;exact List.pairwise_cons.2 ⟨fun a c=>by have:=b.1 a c;rwa[e]at this,b.2⟩
  .rename_i e;refine List.pairwise_cons.2 ⟨fun a c=>?_,BE.set_dis k n r b.2⟩
   grind [BE.set_keys]
theorem Zu(V:List Fp)(p q:(Int×Int)×Int)(h:p.1≠q.1):CS (CS V p) q=CS (CS V q) p:=by
 obtain ⟨⟨a,b⟩,n⟩:=p;obtain⟨⟨c,d⟩,m⟩:=q;simp only[CS];by_cases e:0<=a/\0<=b
 .by_cases f:0<=c/\0<=d
  .simp only[a6 e,a6 f];apply List.ext_getElem?
   grind [Option.map_eq_map,Option.map_map,List.set_comm]
  .simp only[ae f]
 .simp only[ae e]
variable{kvs:BE}
theorem BE.dis_of(hd:kvs.Dis){x y:(Int×Int)×Int}(c:x∈kvs)(d:y∈kvs)(h:x.1=y.1):x=y:=by
 induction kvs with
 |nil=>cases c
 |cons q r i=>
  have e:=List.pairwise_cons.1 hd;rcases List.mem_cons.1 c with f|a<;>rcases List.mem_cons.1 d with g|b
  .rw[f,g]
  .grind
  .grind
  .exact i e.2 a b
theorem Ty{kvs l:BE}(hd:kvs.Dis)(h:kvs.Perm l)(V:List Fp):l.foldl CS V=kvs.foldl CS V:=by
 refine (h.foldl_eq' (fun x a y b z=>?_) V).symm
 grind [Zu,BE.dis_of]
variable{V:List Fp}{r:Fp}{x:Int}
theorem Wy{p:(Int×Int)×Int}(a:idx V p.1.1=some r)(b:idx r p.1.2=some x):BI V p.1.1 (BI r p.1.2 p.2)=CS V p:=by
 have c:=F9 a;have d:=F9 b;simp only[CS,a6 (And.intro c.1 d.1),BI];apply List.ext_getElem?
 grind
def LQ(V W:List Fp):Prop:=V.map List.length=W.map List.length
theorem VL(V:List Fp)(p:(Int×Int)×Int):LQ (CS V p) V:=by
 simp only[LQ,CS];split
 .apply List.ext_getElem?
  grind
 .rfl
theorem LQ.idx{V W:List Fp}(h:LQ V W){a b:Int}(i:idx W a=some r)(j:idx r b=some x):∃c x',idx V a=some c/\idx c b=some x':=by
 have f:=F9 i;have g:=F9 j;have d:(V.map List.length)[a.toNat]?=some r.length:=by rw[h,List.getElem?_map,f.2.2];rfl
 rw [List.getElem?_map]at d;cases hv:V[a.toNat]? with
 |none=>rw[hv]at d;cases d
 |some c=>
  rw [hv]at d;simp only[Option.map_some,o4]at d;have e:b.toNat<c.length:=by have:=(List.getElem?_eq_some_iff.1 g.2.2).1;omega
  exact ⟨c,c[b.toNat],by simp only[Go.Sf.idx,a6 f.1,hv],by simp only[Go.Sf.idx,a6 g.1];exact List.getElem?_eq_getElem e⟩
theorem Wk.refl(cs:List AO):Wk cs cs:=⟨rfl,fun _ d h=>⟨d,h,.inl rfl⟩⟩
theorem Wk.set(cs:List AO)(k:Nat):Wk cs (cs.set k ⟨false,.undef⟩):=by
 refine ⟨by simp,fun i d h=>?_⟩
 grind
def AaP{α:Type}(f:α->K1):List α->K1
 |[]=>some true|p::r=>(f p).bind fun b=>(AaP f r).bind fun c=>some (b&&c)
theorem UN{α:Type}{f:α->K1}:∀{l:List α}{c:Bool},AaP f l=some c->(∀p∈l,∃b,f p=some b/\(c=true->b=true))/\(c=false->∃p∈l,f p=some false)
 |[],c,h=>by cases h;exact⟨fun p a=>(by cases a),fun e=>(by cases e)⟩
 |q::r,c,h=>by
  obtain ⟨b,g,h⟩:=bind_some h;obtain⟨d,hd,h⟩:=bind_some h;obtain⟨i,j⟩:=UN hd;cases h;refine⟨fun p a=>?_,fun e=>?_⟩
  .grind
  .cases b with
   |false=>exact⟨q,by simp,g⟩|true=>
    grind
end Go.Sf
