/- The entries of a map, stored one by one into a list of lists: the order does not matter. -/
import Derived.Test.YtagcclhejecceaaGreatSfCode
import Derived.Test.YtagcclhejecceaaGreatSfStep
set_option linter.all false
namespace Go.Sf
def Ca(V:List Fp)(p:(Int×Int)×Int):List Fp:=
 if 0<=p.1.1/\0<=p.1.2 then V.modify p.1.1.toNat (fun r=>r.set p.1.2.toNat p.2)else V
def BT.zF(kvs:BT):Prop:=kvs.Pairwise fun a b=>a.1≠b.1
theorem BT.set_keys(k:Int×Int)(n:Int):∀(kvs:BT)(p:(Int×Int)×Int),p∈kvs.set k n->p.1=k\/p∈kvs
 |[],p,h=>by simp[BT.set]at h;subst h;exact .inl rfl|q::r,p,h=>by
  simp [BT.set]at h;split at h
  .grind
  .rcases List.mem_cons.1 h with rfl|h
   .exact .inr (by simp)
   .exact(BT.set_keys k n r p h).imp id (List.mem_cons_of_mem _)
theorem BT.set_dis(k:Int×Int)(n:Int):∀(kvs:BT),kvs.zF->(kvs.set k n).zF
 |[],_=>by simp[BT.set,BT.zF]|q::r,h=>by
  have b:=List.pairwise_cons.1 h;simp[BT.set];split
  .rename_i e;exact List.pairwise_cons.2 ⟨fun a c=>by have:=b.1 a c;rwa[e]at this,b.2⟩
  .rename_i e;refine List.pairwise_cons.2 ⟨fun a c=>?_,BT.set_dis k n r b.2⟩
   grind [BT.set_keys]
theorem cv(V:List Fp)(p q:(Int×Int)×Int)(h:p.1≠q.1):Ca (Ca V p) q=Ca (Ca V q) p:=by
 obtain ⟨⟨a,b⟩,n⟩:=p;obtain⟨⟨c,d⟩,m⟩:=q;simp[Ca];by_cases e:0<=a/\0<=b
 .by_cases f:0<=c/\0<=d
  .simp[a6 e,a6 f];apply List.ext_getElem?
   grind [Option.map_eq_map,Option.map_map,List.set_comm]
  .simp[ae f]
 .simp[ae e]
variable{kvs:BT}
theorem BT.dis_of(hd:kvs.zF){x y:(Int×Int)×Int}(c:x∈kvs)(d:y∈kvs)(h:x.1=y.1):x=y:=by
 induction kvs with
 |nil=>cases c
 |cons q r i=>
  have e:=List.pairwise_cons.1 hd;rcases List.mem_cons.1 c with f|a<;>rcases List.mem_cons.1 d with g|b
  .rw[f,g]
  .grind
  .grind
  .exact i e.2 a b
theorem Vp{kvs l:BT}(hd:kvs.zF)(h:kvs.Perm l)(V:List Fp):l.foldl Ca V=kvs.foldl Ca V:=by
 refine (h.foldl_eq' (fun x a y b z=>?_) V).symm
 grind [cv,BT.dis_of]
variable{V:List Fp}{r:Fp}{x:Int}
theorem ZE{p:(Int×Int)×Int}(a:idx V p.1.1=some r)(b:idx r p.1.2=some x):BF V p.1.1 (BF r p.1.2 p.2)=Ca V p:=by
 have c:=FZ a;have d:=FZ b;simp[Ca,a6 (And.intro c.1 d.1),BF];apply List.ext_getElem?
 grind
def Km(V W:List Fp):Prop:=V.map List.length=W.map List.length
theorem XO(V:List Fp)(p:(Int×Int)×Int):Km (Ca V p) V:=by
 simp [Km,Ca];split
 .apply List.ext_getElem?
  grind
 .rfl
theorem Km.idx{V W:List Fp}(h:Km V W){a b:Int}(i:idx W a=some r)(j:idx r b=some x):∃c x',idx V a=some c/\idx c b=some x':=by
 have f:=FZ i;have g:=FZ j;have d:(V.map List.length)[a.toNat]?=some r.length:=by rw[h,List.getElem?_map,f.2.2];rfl
 rw [List.getElem?_map]at d;cases hv:V[a.toNat]? with
 |none=>rw[hv]at d;cases d
 |some c=>
  rw [hv]at d;simp only[Option.map_some,tg]at d;have e:b.toNat<c.length:=by have:=(List.getElem?_eq_some_iff.1 g.2.2).1;omega
  exact ⟨c,c[b.toNat],by simp only[Go.Sf.idx,a6 f.1,hv],by simp only[Go.Sf.idx,a6 g.1];exact List.getElem?_eq_getElem e⟩
theorem Wk.refl(cs:List AN):Wk cs cs:=⟨rfl,fun _ d h=>⟨d,h,.inl rfl⟩⟩
theorem Wk.set(cs:List AN)(k:Nat):Wk cs (cs.set k ⟨false,.undef⟩):=by
 refine ⟨by simp,fun i d h=>?_⟩
 grind
def xm{α:Type}(f:α->K1):List α->K1
 |[]=>some true|p::r=>(f p).bind fun b=>(xm f r).bind fun c=>some (b&&c)
theorem WD{α:Type}{f:α->K1}:∀{l:List α}{c:Bool},xm f l=some c->(∀p∈l,∃b,f p=some b/\(c=true->b=true))/\(c=false->∃p∈l,f p=some false)
 |[],c,h=>by cases h;exact⟨fun p a=>(by cases a),fun e=>(by cases e)⟩
 |q::r,c,h=>by
  obtain ⟨b,g,h⟩:=bind_some h;obtain⟨d,hd,h⟩:=bind_some h;obtain⟨i,j⟩:=WD hd;cases h;refine⟨fun p a=>?_,fun e=>?_⟩
  .grind
  .cases b with
   |false=>exact⟨q,by simp,g⟩|true=>
    grind
end Go.Sf
