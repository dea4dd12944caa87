/- The entries of a map, stored one by one into a list of lists: the order does not matter. -/
import Derived.Test.YthhobbgaejimgaaGreatDoorSfCode
import Derived.Test.YthhobbgaejimgaaGreatDoorSfStep
set_option linter.all false
namespace Go.Sf
def D6(V:List Fp)(p:(Int×Int)×Int):List Fp:=
 if 0<=p.1.1/\0<=p.1.2 then V.modify p.1.1.toNat (fun r=>r.set p.1.2.toNat p.2)else V
def Bb.Dis(kvs:Bb):Prop:=kvs.Pairwise fun a b=>a.1≠b.1
theorem Uq(V:List Fp)(p q:(Int×Int)×Int)(h:p.1≠q.1):D6 (D6 V p) q=D6 (D6 V q) p:=by
 obtain ⟨⟨a,b⟩,n⟩:=p;obtain⟨⟨c,d⟩,m⟩:=q;simp[D6];by_cases e:0<=a/\0<=b
 .by_cases f:0<=c/\0<=d
  .simp[az e,az f];apply List.ext_getElem?
   grind [Option.map_eq_map,Option.map_map,List.set_comm]
  .simp[bk f]
 .simp[bk e]
variable{kvs:Bb}
theorem Bb.dis_of(hd:kvs.Dis){x y:(Int×Int)×Int}(c:x∈kvs)(d:y∈kvs)(h:x.1=y.1):x=y:=by
 induction kvs with
 |nil=>cases c
 |cons q r i=>
  have e:=List.pairwise_cons.1 hd;rcases List.mem_cons.1 c with f|a<;>rcases List.mem_cons.1 d with g|b
  .rw[f,g]
  .grind
  .grind
  .exact i e.2 a b
theorem Ur{kvs l:Bb}(hd:kvs.Dis)(h:kvs.Perm l)(V:List Fp):l.foldl D6 V=kvs.foldl D6 V:=by
 refine (h.foldl_eq' (fun x a y b z=>?_) V).symm
 grind [Uq,Bb.dis_of]
variable{V:List Fp}{r:Fp}{x:Int}
theorem Xv{p:(Int×Int)×Int}(a:idx V p.1.1=some r)(b:idx r p.1.2=some x):CN V p.1.1 (CN r p.1.2 p.2)=D6 V p:=by
 have c:=FP a;have d:=FP b;simp[D6,az (And.intro c.1 d.1),CN];apply List.ext_getElem?
 grind
def KG(V W:List Fp):Prop:=V.map List.length=W.map List.length
theorem WA(V:List Fp)(p:(Int×Int)×Int):KG (D6 V p) V:=by
 simp [KG,D6];split
 .apply List.ext_getElem?
  grind
 .rfl
theorem KG.idx{V W:List Fp}(h:KG V W){a b:Int}(i:idx W a=some r)(j:idx r b=some x):∃c x',idx V a=some c/\idx c b=some x':=by
 have f:=FP i;have g:=FP j;have d:(V.map List.length)[a.toNat]?=some r.length:=by rw[h,List.getElem?_map,f.2.2];rfl
 rw [List.getElem?_map]at d;cases hv:V[a.toNat]? with
 |none=>rw[hv]at d;cases d
 |some c=>
  rw [hv]at d;simp only[Option.map_some,rC]at d;have e:b.toNat<c.length:=by have:=(List.getElem?_eq_some_iff.1 g.2.2).1;omega
  exact ⟨c,c[b.toNat],by simp only[Go.Sf.idx,az f.1,hv],by simp only[Go.Sf.idx,az g.1];exact List.getElem?_eq_getElem e⟩
theorem Wk.refl(cs:List AJ):Wk cs cs:=⟨rfl,fun _ d h=>⟨d,h,.inl rfl⟩⟩
theorem Wk.set(cs:List AJ)(k:Nat):Wk cs (cs.set k ⟨false,.undef⟩):=by
 refine ⟨by simp,fun i d h=>?_⟩
 grind
def tq{α:Type}(f:α->K1):List α->K1
 |[]=>some true|p::r=>(f p).bind fun b=>(tq f r).bind fun c=>some (b&&c)
theorem P2{α:Type}{f:α->K1}:∀{l:List α}{c:Bool},tq f l=some c->(∀p∈l,∃b,f p=some b/\(c=true->b=true))/\(c=false->∃p∈l,f p=some false)
 |[],c,h=>by cases h;exact⟨fun p a=>(by cases a),fun e=>(by cases e)⟩
 |q::r,c,h=>by
  obtain ⟨b,g,h⟩:=bind_some h;obtain⟨d,hd,h⟩:=bind_some h;obtain⟨i,j⟩:=P2 hd;cases h;refine⟨fun p a=>?_,fun e=>?_⟩
  .grind
  .cases b with
   |false=>exact⟨q,by simp,g⟩|true=>
    grind
end Go.Sf
